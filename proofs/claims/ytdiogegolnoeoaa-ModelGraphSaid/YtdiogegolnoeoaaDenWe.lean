/- Pure laws: what is kept of a model. -/
import Derived.Test.YtdiogegolnoeoaaDenWd
namespace Go.Proofs.Ytdiogegolnoeoaa.Den
open Go
set_option linter.unusedVariables false
set_option linter.unusedSectionVars false
set_option linter.unusedSimpArgs false
set_option maxRecDepth 100000

def inT (ids : List Int) (t : Thing) : Bool := decide (t.1 ∈ ids)
def keptV (m : Model) (ids : List Int) : Model := (m.1, m.2.1.filter (inT ids), m.2.2)
theorem kept24_eq {m : Model} (hn : m.2.1.length ≤ 1000) {ids : List Int} (hi : ids.length ≤ 1000000) : flotsamref24_Kept (m, ids, ()) = some (keptV m ids, ()) := by
  have key : flotsamref24_Kept_l0 (ids, 0, m, 0, (), [], ()) = some (.out (m, 0, (), m.2.1.filter (inT ids), ())) := by
    unfold flotsamref24_Kept_l0
    refine iterL_run m.2.1.length (fun i => (ids, (i : Int), m, 0, (), (m.2.1.take i).filter (inT ids), ())) (fun i hi' => ?_) ?_ (by omega) rfl
    · have ht : m.2.1.take (i + 1) = m.2.1.take i ++ [m.2.1[i]] := (List.take_append_getElem hi').symm
      have hf : ((m.2.1.take i).filter (inT ids)).length ≤ 1000 := by
        have := List.length_filter_le (inT ids) (m.2.1.take i)
        rw [List.length_take] at this; omega
      have et : (m.2.1.getD i (0, [], ()) : Thing) = m.2.1[i] := get_d _ _ _ hi'
      simp only [flotsamref24_Kept_s0, flotsamref24_Kept_s0r, Bool.cond_decide, Int.toNat_natCast, et]
      rw [if_pos (by omega), if_pos (by omega), if_pos (by omega), inW ids _ (by omega), Option.bind_some, wi64_id (by omega) (by omega), ht, List.filter_append]
      dsimp only
      have e : decide (m.2.1[i].1 ∈ ids) = inT ids m.2.1[i] := rfl
      rw [e]
      cases hc : inT ids m.2.1[i] with
      | true =>
        rw [cond_true, if_pos (by omega), if_pos (by omega), if_pos (by omega)]
        simp [List.filter_cons, hc]
      | false =>
        rw [cond_false]
        simp [List.filter_cons, hc]
    · simp only [flotsamref24_Kept_s0, flotsamref24_Kept_s0r, Bool.cond_decide]
      rw [if_neg (by omega), List.take_of_length_le (Nat.le_refl _)]
  simp only [flotsamref24_Kept, flotsamref24_Kept_r, key, Option.bind_some]
  rfl
theorem filter_all {α : Type} {p : α → Bool} {l : List α} (h : ∀ x ∈ l, p x = true) : l.filter p = l := List.filter_eq_self.2 h
/-- Those that are kept move down. -/
theorem kept_l1 {m : Model} {ts : List Thing} (hn : ts.length ≤ 1000) {ids : List Int} (hi : ids.length ≤ 1000000) {k : Nat} (hk : k < ts.length) (hk' : inT ids ts[k] = false) (hall : (ts.take k).filter (inT ids) = ts.take k) :
    ∃ l, model_Kept_l1 ((k : Int), wi64 ((k : Int) + 1), m, ids, 0, (), ts, ()) = some l ∧ ∃ (w : Nat) (us : List Thing), l = .out ((w : Int), m, 0, (), us, ()) ∧ us.length = ts.length ∧ w ≤ ts.length ∧ us.take w = ts.filter (inT ids) := by
  rw [wi64_id (by omega) (by omega)]
  unfold model_Kept_l1
  refine iterL_rule (fun n x => ∃ (w i : Nat) (us : List Thing), i ≤ ts.length ∧ w < i ∧ n = ts.length - i ∧ x = ((w : Int), (i : Int), m, ids, 0, (), us, ()) ∧ us.length = ts.length ∧ us.take w = (ts.take i).filter (inT ids) ∧ ∀ j, i ≤ j → us[j]? = ts[j]?) ?_ _ (ts.length - (k + 1)) _ (by omega) ⟨k, k + 1, ts, by omega, by omega, rfl, rfl, rfl, ?_, fun _ _ => rfl⟩
  · rintro n x ⟨w, i, us, i1, w1, rfl, rfl, hl, ht, hr⟩
    simp only [model_Kept_s1, model_Kept_s1r, Bool.cond_decide]
    by_cases c : i < ts.length
    · left
      have hu : us.getD i (0, [], ()) = ts[i] := by
        rw [List.getD, hr i (Nat.le_refl _), List.getElem?_eq_getElem c]; rfl
      have htk : ts.take (i + 1) = ts.take i ++ [ts[i]] := (List.take_append_getElem c).symm
      rw [if_pos (by omega), if_pos (by omega), if_pos (by omega), Int.toNat_natCast, hu, containsW ids _ (by omega), Option.bind_some, wi64_id (n := (i : Int) + 1) (by omega) (by omega), wi64_id (n := (w : Int) + 1) (by omega) (by omega)]
      dsimp only
      have e : decide (ts[i].1 ∈ ids) = inT ids ts[i] := rfl
      rw [e, Bool.not_not]
      cases hc : inT ids ts[i] with
      | true =>
        rw [cond_true, if_pos (by omega), if_pos (by omega), Int.toNat_natCast]
        refine ⟨ts.length - (i + 1), _, by omega, rfl, w + 1, i + 1, us.set w ts[i], by omega, by omega, rfl, rfl, by rw [List.length_set]; exact hl, ?_, fun j hj => ?_⟩
        · rw [htk, List.filter_append, ← ht]
          have : (us.set w ts[i]).take (w + 1) = us.take w ++ [ts[i]] := by
            have hw : w < (us.set w ts[i]).length := by rw [List.length_set]; omega
            rw [← List.take_append_getElem hw, List.getElem_set_self, List.take_set_of_le (Nat.le_refl _)]
          rw [this]
          simp [List.filter_cons, hc]
        · rw [List.getElem?_set, if_neg (show ¬ w = j by omega)]
          exact hr j (by omega)
      | false =>
        rw [cond_false]
        refine ⟨ts.length - (i + 1), _, by omega, rfl, w, i + 1, us, by omega, by omega, rfl, rfl, hl, ?_, fun j hj => hr j (by omega)⟩
        rw [htk, List.filter_append, ← ht]
        simp [List.filter_cons, hc]
    · right
      refine ⟨_, by rw [if_neg (by omega)], w, us, rfl, hl, by omega, ?_⟩
      rw [ht, List.take_of_length_le (by omega)]
  · rw [← List.take_append_getElem hk, List.filter_append, hall]
    simp [List.filter_cons, hk']
theorem kept_eqM {m : Model} (hn : m.2.1.length ≤ 1000) {ids : List Int} (hi : ids.length ≤ 1000000) : model_Kept (m, ids, ()) = some (keptV m ids, ()) := by
  have key : ∃ l, model_Kept_l0 ((m.2.1.length : Int), 0, m, ids, 0, (), m.2.1, ()) = some l ∧ ((l = .out (m, ids, 0, (), m.2.1, ()) ∧ m.2.1.filter (inT ids) = m.2.1) ∨ ∃ (k : Nat) (h : k < m.2.1.length), l = .ret ((k : Int), m, ids, 0, (), m.2.1, ()) ∧ inT ids m.2.1[k] = false ∧ (m.2.1.take k).filter (inT ids) = m.2.1.take k) := by
    unfold model_Kept_l0
    refine iterL_rule (fun n x => ∃ (i : Nat), i ≤ m.2.1.length ∧ n = m.2.1.length - i ∧ x = ((m.2.1.length : Int), (i : Int), m, ids, 0, (), m.2.1, ()) ∧ (m.2.1.take i).filter (inT ids) = m.2.1.take i) ?_ _ m.2.1.length _ (by omega) ⟨0, by omega, rfl, rfl, rfl⟩
    rintro n x ⟨i, i1, rfl, rfl, ht⟩
    simp only [model_Kept_s0, model_Kept_s0r, Bool.cond_decide, Int.toNat_natCast]
    by_cases c : i < m.2.1.length
    · have et : (m.2.1.getD i (0, [], ()) : Thing) = m.2.1[i] := get_d _ _ _ c
      rw [if_pos (by omega), if_pos (by omega), if_pos (by omega), et, containsW ids _ (by omega), Option.bind_some, wi64_id (by omega) (by omega)]
      dsimp only
      have e : decide (m.2.1[i].1 ∈ ids) = inT ids m.2.1[i] := rfl
      rw [e]
      cases hc : inT ids m.2.1[i] with
      | true =>
        left
        refine ⟨m.2.1.length - (i + 1), _, by omega, rfl, i + 1, by omega, rfl, rfl, ?_⟩
        rw [← List.take_append_getElem c, List.filter_append, ht]
        simp [List.filter_cons, hc]
      | false =>
        right
        exact ⟨_, rfl, .inr ⟨i, c, rfl, hc, ht⟩⟩
    · right
      obtain rfl : i = m.2.1.length := by omega
      refine ⟨_, by rw [if_neg (by omega)], .inl ⟨rfl, ?_⟩⟩
      rw [List.take_of_length_le (Nat.le_refl _)] at ht
      exact ht
  obtain ⟨l, e, h | ⟨k, hk, rfl, h1, h2⟩⟩ := key
  · obtain ⟨rfl, h⟩ := h
    simp only [model_Kept, model_Kept_r, cloneT_w (show m.2.1.length ≤ 1000000 by omega), Option.bind_some, e]
    unfold keptV
    rw [h]
  · obtain ⟨l1, e1, w, us, rfl, hl, hw, hu⟩ := kept_l1 (m := m) hn hi hk h1 h2
    simp only [model_Kept, model_Kept_r, cloneT_w (show m.2.1.length ≤ 1000000 by omega), Option.bind_some, e]
    have hk1 : (((k : Int)) == (-1)) = false := by rw [ibeq]; exact decide_eq_false (by omega)
    rw [hk1, cond_false, e1, Option.bind_some]
    simp only [Bool.cond_decide, Int.toNat_natCast]
    have hs : segSet us w (List.replicate (us.length - w) ((0, [], ()) : Thing)) = us.take w ++ List.replicate (us.length - w) ((0, [], ()) : Thing) := by
      unfold segSet
      rw [List.length_replicate, List.drop_of_length_le (by omega), List.append_nil]
    have hsl : (us.take w ++ List.replicate (us.length - w) ((0, [], ()) : Thing)).length = us.length := by
      rw [List.length_append, List.length_take, List.length_replicate]; omega
    have a1 : (0 : Int) ≤ (w : Int) := by omega
    have a2 : (w : Int) ≤ (us.length : Int) := by omega
    simp only [hs, hsl, a1, a2, Int.le_refl, if_true]
    unfold keptV
    rw [← hu]
    have : (((us.take w ++ List.replicate (us.length - w) ((0, [], ()) : Thing)).drop 0).take (w - 0)) = us.take w := by
      rw [List.drop_zero, Nat.sub_zero, List.take_append_of_le_length (by rw [List.length_take]; omega), List.take_take, Nat.min_self]
    rw [this]
theorem LM.kept {m : Model} (q : LM m) (ids : List Int) : LM (keptV m ids) := by
  refine ⟨?_, fun i hi => ?_, q.ss, q.sl⟩
  · have := q.ts
    have h := List.length_filter_le (inT ids) m.2.1
    show (m.2.1.filter (inT ids)).length ≤ 1000
    omega
  · have hi : i < (m.2.1.filter (inT ids)).length := hi
    show ((m.2.1.filter (inT ids)).getD i zt).2.1.length ≤ 1000
    rw [get_d _ _ _ hi]
    have hm := (List.mem_filter.1 (List.getElem_mem hi)).1
    obtain ⟨j, hj, e⟩ := List.getElem_of_mem hm
    rw [← e, ← get_d _ _ zt hj]
    exact q.fs j hj
theorem RM.kept {m : Model} (r : RM m) (ids : List Int) : RM (keptV m ids) := by
  refine ⟨fun i hi => ?_, fun i j hij hj => ?_⟩
  · have hi : i < (m.2.1.filter (inT ids)).length := hi
    show 0 ≤ ((m.2.1.filter (inT ids)).getD i zt).1 ∧ ((m.2.1.filter (inT ids)).getD i zt).1 < m.1 ∧ ((m.2.1.filter (inT ids)).getD i zt).2.1.length ≤ 15
    rw [get_d _ _ _ hi]
    have hm := (List.mem_filter.1 (List.getElem_mem hi)).1
    obtain ⟨j, hj, e⟩ := List.getElem_of_mem hm
    rw [← e, ← get_d _ _ zt hj]
    exact r.id j hj
  · have hj : j < (m.2.1.filter (inT ids)).length := hj
    show ((m.2.1.filter (inT ids)).getD i zt).1 < ((m.2.1.filter (inT ids)).getD j zt).1
    have hp : m.2.1.Pairwise (fun a b => a.1 < b.1) := by
      have := ids_sorted r
      unfold idsM at this
      rwa [List.pairwise_map] at this
    have := List.pairwise_iff_getElem.1 (hp.filter (inT ids)) i j (by omega) hj hij
    rw [get_d _ _ _ hj, get_d _ _ _ (by omega)]
    exact this
end Go.Proofs.Ytdiogegolnoeoaa.Den
