/- Pure laws: things made, set, kept; models alike. -/
import Derived.Test.YtdiogegolnoeoaaDenWa
namespace Go.Proofs.Ytdiogegolnoeoaa.Den
open Go
set_option linter.unusedVariables false
set_option linter.unusedSimpArgs false
set_option maxRecDepth 100000

theorem intsW (a : List Int) (ha : a.length < 9223372036854775807) : flotsamref08_Ints (a, a, ()) = some (true, ()) := by
  have key : flotsamref08_Ints_l0 (a, a, 0, ()) = some (.out ()) := by
    unfold flotsamref08_Ints_l0
    refine iterL_run a.length (fun i => (a, a, (i : Int), ())) (fun i hi => ?_) ?_ (by omega) rfl
    · simp only [flotsamref08_Ints_s0, flotsamref08_Ints_s0r, Bool.cond_decide, ibne]
      rw [if_pos (by omega), if_pos (by omega), if_pos (by omega), if_pos (by omega), if_pos (by omega), if_neg (by simp), wi64_id (by omega) (by omega)]
      rfl
    · simp only [flotsamref08_Ints_s0, flotsamref08_Ints_s0r, Bool.cond_decide]
      rw [if_neg (by omega)]
  simp only [flotsamref08_Ints, flotsamref08_Ints_r, key, Option.bind_some, ibne, Bool.cond_decide]
  rw [if_neg (by simp)]
theorem inW (l : List Int) (n : Int) (hl : l.length < 9223372036854775807) : flotsamref08_In (l, n, ()) = some (decide (n ∈ l), ()) := by
  have key : ∃ r, flotsamref08_In_l0 (l, n, 0, ()) = some r ∧ r = (if n ∈ l then .ret (true, ()) else .out ()) := by
    unfold flotsamref08_In_l0
    refine iterL_rule (fun m x => ∃ i : Nat, i ≤ l.length ∧ m = l.length - i ∧ x = (l, n, (i : Int), ()) ∧ ∀ j (h1 : j < l.length), j < i → l[j] ≠ n) ?_ _ l.length _ (by omega) ⟨0, by omega, rfl, rfl, fun j _ hj => by omega⟩
    rintro m x ⟨i, i1, rfl, rfl, hi⟩
    simp only [flotsamref08_In_s0, flotsamref08_In_s0r, Bool.cond_decide, ibeq]
    by_cases hn : i < l.length
    · rw [if_pos (by omega), if_pos (by omega), if_pos (by omega), Int.toNat_natCast, get_d _ _ _ hn]
      by_cases e : l[i] = n
      · rw [if_pos e]
        refine .inr ⟨_, rfl, ?_⟩
        rw [if_pos]
        rw [← e]; exact List.getElem_mem hn
      · rw [if_neg e, wi64_id (by omega) (by omega)]
        refine .inl ⟨l.length - (i + 1), (l, n, ((i + 1 : Nat) : Int), ()), by omega, rfl, i + 1, by omega, rfl, rfl, fun j h1 h3 => ?_⟩
        by_cases e' : j = i
        · subst e'; exact e
        · exact hi j h1 (by omega)
    · rw [if_neg (by omega)]
      refine .inr ⟨_, rfl, ?_⟩
      rw [if_neg]
      intro hm
      obtain ⟨j, hj, e⟩ := List.mem_iff_getElem.1 hm
      exact hi j hj (by omega) e
  obtain ⟨r, e, rfl⟩ := key
  simp only [flotsamref08_In, flotsamref08_In_r, e, Option.bind_some]
  by_cases h : n ∈ l <;> simp [h]
theorem containsW (l : List Int) (n : Int) (hl : l.length < 9223372036854775807) : slices_Contains (l, n, ()) = some (decide (n ∈ l), ()) := by
  have key : ∃ r, slices_Index_l0 (l, n, (l.length : Int), 0, ()) = some r ∧ ((n ∈ l ∧ ∃ i : Nat, r = .ret ((i : Int), ())) ∨ (n ∉ l ∧ r = .out ())) := by
    unfold slices_Index_l0
    refine iterL_rule (fun m x => ∃ i : Nat, i ≤ l.length ∧ m = l.length - i ∧ x = (l, n, (l.length : Int), (i : Int), ()) ∧ ∀ j (h1 : j < l.length), j < i → l[j] ≠ n) ?_ _ l.length _ (by omega) ⟨0, by omega, rfl, rfl, fun j _ hj => by omega⟩
    rintro m x ⟨i, i1, rfl, rfl, hi⟩
    simp only [slices_Index_s0, slices_Index_s0r, Bool.cond_decide, ibeq]
    by_cases hn : i < l.length
    · rw [if_pos (by omega), if_pos (by omega), if_pos (by omega), Int.toNat_natCast, get_d _ _ _ hn]
      by_cases e : n = l[i]
      · rw [if_pos e]
        exact .inr ⟨_, rfl, .inl ⟨by rw [e]; exact List.getElem_mem hn, i, rfl⟩⟩
      · rw [if_neg e, wi64_id (by omega) (by omega)]
        refine .inl ⟨l.length - (i + 1), _, by omega, rfl, i + 1, by omega, rfl, rfl, fun j h1 h3 => ?_⟩
        by_cases e' : j = i
        · subst e'; exact fun h => e h.symm
        · exact hi j h1 (by omega)
    · rw [if_neg (by omega)]
      refine .inr ⟨_, rfl, .inr ⟨fun hm => ?_, rfl⟩⟩
      obtain ⟨j, hj, e⟩ := List.mem_iff_getElem.1 hm
      exact hi j hj (by omega) e
  obtain ⟨r, e, ⟨h1, i, rfl⟩ | ⟨h1, rfl⟩⟩ := key
  · simp only [slices_Contains, slices_Contains_r, slices_Index, slices_Index_r, e, Option.bind_some]
    rw [decide_eq_true h1, decide_eq_true (by omega)]
  · simp only [slices_Contains, slices_Contains_r, slices_Index, slices_Index_r, e, Option.bind_some]
    rw [decide_eq_false h1]
    rfl
theorem same1W (vs : List Val) (hl : vs.length ≤ 1000000) : flotsamref01_Same (vs, vs, ()) = some (true, ()) := by
  have key : flotsamref01_Same_l0 (vs, vs, 0, ()) = some (.out ()) := by
    unfold flotsamref01_Same_l0
    refine iterL_run vs.length (fun i => (vs, vs, (i : Int), ())) (fun i hi => ?_) ?_ (by omega) rfl
    · simp only [flotsamref01_Same_s0, flotsamref01_Same_s0r, Bool.cond_decide]
      rw [if_pos (by omega), if_pos (by omega), if_pos (by omega), if_pos (by omega), if_pos (by omega), wi64_id (by omega) (by omega)]
      simp
    · simp only [flotsamref01_Same_s0, flotsamref01_Same_s0r, Bool.cond_decide]
      rw [if_neg (by omega)]
  simp only [flotsamref01_Same, flotsamref01_Same_r, key, Option.bind_some, ibne, Bool.cond_decide]
  rw [if_neg (by simp)]
/-- Lengths that may be. -/
structure LM (m : Model) : Prop where
  ts : m.2.1.length ≤ 1000
  fs : ∀ i, i < m.2.1.length → (m.2.1.getD i zt).2.1.length ≤ 1000
  ss : m.2.2.1.length ≤ 1000
  sl : ∀ i, i < m.2.2.1.length → (m.2.2.1.getD i []).length ≤ 1000
theorem FM.lm {m : Model} (f : FM m) : LM m := ⟨by have := f.ts; omega, fun i hi => by have := f.fs i hi; omega, by have := f.ss; omega, fun i hi => by have := f.sl i hi; omega⟩
theorem same24W {m : Model} (q : LM m) : flotsamref24_Same (m, m, ()) = some (true, ()) := by
  have h1 := q.ts
  have h2 := q.ss
  have k0 : flotsamref24_Same_l0 (0, m, m, ()) = some (.out (m, m, ())) := by
    unfold flotsamref24_Same_l0
    refine iterL_run m.2.1.length (fun i => ((i : Int), m, m, ())) (fun i hi => ?_) ?_ (by omega) rfl
    · have hf := q.fs i hi
      have i0 : (0 : Int) ≤ i := by omega
      have i1 : (i : Int) < m.2.1.length := by omega
      simp only [flotsamref24_Same_s0, flotsamref24_Same_s0r, Bool.cond_decide, ibne, i0, i1, if_true, Int.toNat_natCast, not_true, if_false]
      rw [same1W _ (by show (m.2.1.getD i zt).2.1.length ≤ 1000000; omega), wi64_id (by omega) (by omega)]
      rfl
    · simp only [flotsamref24_Same_s0, flotsamref24_Same_s0r, Bool.cond_decide]
      rw [if_neg (by omega)]
  have k1 : flotsamref24_Same_l1 (0, m, m, ()) = some (.out ()) := by
    unfold flotsamref24_Same_l1
    refine iterL_run m.2.2.1.length (fun i => ((i : Int), m, m, ())) (fun i hi => ?_) ?_ (by omega) rfl
    · have hf := q.sl i hi
      have i0 : (0 : Int) ≤ i := by omega
      have i1 : (i : Int) < m.2.2.1.length := by omega
      simp only [flotsamref24_Same_s1, flotsamref24_Same_s1r, Bool.cond_decide, ibne, i0, i1, if_true, Int.toNat_natCast, not_true, if_false]
      rw [same1W _ (by omega), wi64_id (by omega) (by omega)]
      rfl
    · simp only [flotsamref24_Same_s1, flotsamref24_Same_s1r, Bool.cond_decide]
      rw [if_neg (by omega)]
  simp only [flotsamref24_Same, flotsamref24_Same_r, ibne, Bool.cond_decide, not_true, if_false, k0, k1, Option.bind_some]

/-! ### made -/
def mkV (m : Model) (n : Nat) : Model := (m.1 + 1, m.2.1 ++ [(m.1, List.replicate n ((0, 0, ()) : Val), ())], m.2.2)
def lensT (xs : List (List Thing)) : Nat := (xs.map fun l => l.length).sum
theorem lens_take (xs : List (List Thing)) (i : Nat) (hi : i < xs.length) : lensT (xs.take (i + 1)) = lensT (xs.take i) + xs[i].length := by
  unfold lensT
  rw [← List.take_append_getElem hi, List.map_append, List.sum_append]
  simp
theorem lens_le (xs : List (List Thing)) (i : Nat) : lensT (xs.take i) ≤ lensT xs := by
  unfold lensT
  conv => rhs; rw [← List.take_append_drop i xs, List.map_append, List.sum_append]
  omega
theorem flat_len (xs : List (List Thing)) : xs.flatten.length = lensT xs := by
  unfold lensT
  rw [List.length_flatten]
theorem concat_all {xs : List (List Thing)} (hx : xs.length ≤ 1000) (hs : lensT xs ≤ 100000) : slices_Concat (xs, ()) = some (xs.flatten, ()) := by
  have k0 : slices_Concat_l0 (xs, 0, xs, (xs.length : Int), 0, ()) = some (.out (xs, (lensT xs : Int), ())) := by
    unfold slices_Concat_l0
    refine iterL_run xs.length (fun i => (xs, (lensT (xs.take i) : Int), xs, (xs.length : Int), (i : Int), ())) (fun i hi => ?_) ?_ (by omega) rfl
    · have h1 := lens_take xs i hi
      have h2 := lens_le xs (i + 1)
      have e : wi64 ((lensT (xs.take i) : Int) + (xs[i].length : Int)) = (lensT (xs.take (i + 1)) : Int) := by rw [wi64_id (by omega) (by omega)]; omega
      simp only [slices_Concat_s0, slices_Concat_s0r, Bool.cond_decide]
      rw [if_pos (by omega), if_pos (by omega), if_pos (by omega), Int.toNat_natCast, get_d _ _ _ hi, e, if_neg (by omega), wi64_id (by omega) (by omega)]
      rfl
    · simp only [slices_Concat_s0, slices_Concat_s0r, Bool.cond_decide]
      rw [if_neg (by omega), List.take_length]
  have k1 : slices_Concat_l1 (xs, (xs.length : Int), 0, [], ()) = some (.out (xs.flatten, ())) := by
    unfold slices_Concat_l1
    refine iterL_run xs.length (fun i => (xs, (xs.length : Int), (i : Int), (xs.take i).flatten, ())) (fun i hi => ?_) ?_ (by omega) rfl
    · have h1 := lens_take xs i hi
      have h2 := lens_le xs (i + 1)
      have h3 := flat_len (xs.take i)
      simp only [slices_Concat_s1, slices_Concat_s1r, Bool.cond_decide]
      rw [if_pos (by omega), if_pos (by omega), if_pos (by omega), Int.toNat_natCast, get_d _ _ _ hi, if_pos (by omega), wi64_id (by omega) (by omega), ← List.take_append_getElem hi, List.flatten_append]
      simp
    · simp only [slices_Concat_s1, slices_Concat_s1r, Bool.cond_decide]
      rw [if_neg (by omega), List.take_length]
  simp only [slices_Concat, slices_Concat_r, k0, Option.bind_some, Bool.cond_decide]
  have e0 : (lensT xs : Int) - 0 = (lensT xs : Int) := by omega
  have n0 : ¬ (lensT xs : Int) < 0 := by omega
  rw [if_neg n0, e0, wi64_id (n := (lensT xs : Int)) (by omega) (by omega), wi64_id (n := (lensT xs : Int)) (by omega) (by omega)]
  by_cases h : (lensT xs : Int) > 0
  · rw [if_pos h, if_pos (by omega), Int.toNat_natCast, if_pos (by omega), if_pos (by omega), List.take_zero, k1]
    rfl
  · rw [if_neg h, k1]
    rfl
theorem concat_eqM {a b : List Thing} (ha : a.length ≤ 1000) (hb : b.length ≤ 1000) : slices_Concat ([a, b], ()) = some (a ++ b, ()) := by
  rw [concat_all (by simp) (by simp [lensT]; omega)]
  simp
theorem make_eqM {m : Model} (hl : m.2.1.length ≤ 999) (h0 : -9223372036854775808 ≤ m.1) (h1 : m.1 < 1152921504606846976) {n : Nat} (hn : n ≤ 15) : model_Make (m, (n : Int), ()) = some (mkV m n, m.1, ()) := by
  simp only [model_Make, model_Make_r, ibeq, Bool.cond_decide, Int.toNat_natCast]
  rw [if_pos trivial, if_pos (by omega), if_pos (by omega), concat_eqM (by omega) (by simp)]
  simp only [Option.bind_some]
  rw [wi64_id (by omega) (by omega)]
  rfl
theorem make24_eq {m : Model} (hl : m.2.1.length ≤ 999) (h0 : -9223372036854775808 ≤ m.1) (h1 : m.1 < 1152921504606846976) {n : Nat} (hn : n ≤ 15) : flotsamref24_Make (m, (n : Int), ()) = some (mkV m n, m.1, ()) := by
  have key : flotsamref24_Make_l0 ((n : Int), 0, m, 0, (), m.1, (), [], ()) = some (.out (m, 0, (), m.1, (), List.replicate n ((0, 0, ()) : Val), ())) := by
    unfold flotsamref24_Make_l0
    refine iterL_run n (fun i => ((n : Int), (i : Int), m, 0, (), m.1, (), List.replicate i ((0, 0, ()) : Val), ())) (fun i hi => ?_) ?_ (by omega) rfl
    · simp only [flotsamref24_Make_s0, flotsamref24_Make_s0r, Bool.cond_decide, List.length_replicate]
      rw [if_pos (by omega), if_pos (by omega), wi64_id (by omega) (by omega), List.replicate_succ']
      rfl
    · simp only [flotsamref24_Make_s0, flotsamref24_Make_s0r, Bool.cond_decide]
      rw [if_neg (by omega)]
  simp only [flotsamref24_Make, flotsamref24_Make_r, key, Option.bind_some, Bool.cond_decide]
  rw [if_pos (by omega), if_pos (by omega), wi64_id (by omega) (by omega)]
  rfl

/-! ### set -/
def setV (m : Model) (id f : Int) (v : Val) : Model × Bool × Unit := match fi m id with
  | some k => if f < 0 ∨ ((m.2.1.getD k zt).2.1.length : Int) ≤ f then (m, false, ()) else ((m.1, m.2.1.set k ((m.2.1.getD k zt).1, (m.2.1.getD k zt).2.1.set f.toNat v, ()), m.2.2), true, ())
  | none => (m, false, ())
theorem set_eqM {m : Model} (r : RM m) (q : LM m) (id f : Int) (v : Val) : model_Set (m, id, f, v, ()) = some (setV m id f v) := by
  have hl := q.ts
  obtain ⟨i, e, h⟩ := at_eq2 r hl id
  simp only [model_Set, model_Set_r, e, Option.bind_some, Bool.cond_decide, setV]
  cases hf : fi m id with
  | none => rfl
  | some k =>
    have := h k hf
    subst this
    have hk := (fi_some hf).1
    have hfl := q.fs k hk
    simp only [Option.isSome_some, Bool.not_true, cond_false]
    by_cases c1 : f < 0
    · rw [if_pos c1, if_pos (.inl c1)]
    have k0 : (0 : Int) ≤ (k : Int) := by omega
    have k1 : (k : Int) < (m.2.1.length : Int) := by omega
    rw [if_neg c1, if_pos k0, if_pos k1, Int.toNat_natCast]
    by_cases c2 : f ≥ ((m.2.1.getD k zt).2.1.length : Int)
    · rw [if_pos c2, if_pos (.inr c2)]
    rw [if_neg c2, if_neg (fun h => h.elim c1 c2), cloneT_w (by omega)]
    simp only [Option.bind_some, k0, k1, if_true]
    rw [cloneV_w (by show (m.2.1.getD k zt).2.1.length ≤ 1000000; omega)]
    simp only [Option.bind_some]
    have f0 : (0 : Int) ≤ f := by omega
    have f1 : f < ((m.2.1.getD k zt).2.1.length : Int) := by omega
    rw [Nat.beq_refl]
    simp only [cond_true]
    rw [if_pos f0, if_pos f1]
theorem set24_eq {m : Model} (r : RM m) (q : LM m) (id f : Int) (v : Val) : flotsamref24_Set (m, id, f, v, ()) = some (setV m id f v) := by
  have hl := q.ts
  simp only [flotsamref24_Set, flotsamref24_Set_r, get24_eq hl, Option.bind_some, Bool.cond_decide, setV, gtV]
  cases hf : fi m id with
  | none => rfl
  | some k =>
    obtain ⟨hk, hid⟩ := fi_some hf
    have hfl := q.fs k hk
    simp only [Bool.not_true, cond_false]
    by_cases c1 : f < 0
    · rw [if_pos c1, if_pos (.inl c1)]
    rw [if_neg c1]
    by_cases c2 : f ≥ ((m.2.1.getD k zt).2.1.length : Int)
    · rw [if_pos c2, if_pos (.inr c2)]
    rw [if_neg c2, if_neg (fun h => h.elim c1 c2)]
    have key : flotsamref24_Set_l0 (id, f, 0, m, v, 0, (), [], ()) = some (.out (m, 0, (), m.2.1.set k ((m.2.1.getD k zt).1, (m.2.1.getD k zt).2.1.set f.toNat v, ()), ())) := by
      unfold flotsamref24_Set_l0
      refine iterL_run m.2.1.length (fun i => (id, f, (i : Int), m, v, 0, (), (m.2.1.set k ((m.2.1.getD k zt).1, (m.2.1.getD k zt).2.1.set f.toNat v, ())).take i, ())) (fun i hi => ?_) ?_ (by omega) rfl
      · have ht : (m.2.1.set k ((m.2.1.getD k zt).1, (m.2.1.getD k zt).2.1.set f.toNat v, ())).take (i + 1) = (m.2.1.set k ((m.2.1.getD k zt).1, (m.2.1.getD k zt).2.1.set f.toNat v, ())).take i ++ [if k = i then ((m.2.1.getD k zt).1, (m.2.1.getD k zt).2.1.set f.toNat v, ()) else m.2.1.getD i zt] := by
          rw [← List.take_append_getElem (by rw [List.length_set]; exact hi), List.getElem_set, get_d _ _ _ hi]
        have hlen : ((m.2.1.set k ((m.2.1.getD k zt).1, (m.2.1.getD k zt).2.1.set f.toNat v, ())).take i).length ≤ 1000 := by
          rw [List.length_take, List.length_set]; omega
        have i0 : (0 : Int) ≤ (i : Int) := by omega
        have i1 : (i : Int) < (m.2.1.length : Int) := by omega
        simp only [flotsamref24_Set_s0, flotsamref24_Set_s0r, Bool.cond_decide, ibeq, i0, i1, if_true, Int.toNat_natCast]
        rw [wi64_id (by omega) (by omega), ht]
        by_cases c : (m.2.1.getD i zt).1 = id
        · obtain rfl := r.one hk hi (by rw [hid, c])
          have f0 : (0 : Int) ≤ f := by omega
          have f1 : f < ((m.2.1.getD k zt).2.1.length : Int) := by omega
          rw [if_pos c, if_pos (by show (0 + (m.2.1.getD k zt).2.1.length) * 16 ≤ 140737488355328; omega), if_pos f0, if_pos f1, if_pos (by omega), if_pos rfl]
          rfl
        · rw [if_neg c, if_pos (by omega), if_neg (fun h => c (by rw [← h]; exact hid))]
          rfl
      · simp only [flotsamref24_Set_s0, flotsamref24_Set_s0r, Bool.cond_decide]
        rw [if_neg (by omega), List.take_of_length_le (by rw [List.length_set]; omega)]
    rw [key]
    rfl
end Go.Proofs.Ytdiogegolnoeoaa.Den
