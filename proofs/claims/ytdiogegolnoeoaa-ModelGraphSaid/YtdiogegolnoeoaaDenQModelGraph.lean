/- Pure law: ModelGraph. -/
import Derived.Test.YtdiogegolnoeoaaDenQModelReaches
namespace Go.Proofs.Ytdiogegolnoeoaa.Den
open Go
set_option linter.unusedVariables false
set_option linter.unusedSectionVars false
set_option linter.unusedSimpArgs false
set_option maxRecDepth 100000

/-! ### what is reached in what is kept -/
theorem flds_of {m : Model} (r : RM m) {t : Thing} (ht : t ∈ m.2.1) : flds m t.1 = t.2.1 := by
  obtain ⟨j, hj, e⟩ := List.getElem_of_mem ht
  have h := (flds_at r hj).1
  rw [get_d _ _ _ hj, e] at h
  exact h
theorem has_of {m : Model} {a : Int} (h : hasT m a = true) : ∃ t ∈ m.2.1, t.1 = a := by
  obtain ⟨t, ht, e⟩ := List.mem_map.1 (hasT_iff.1 h)
  exact ⟨t, ht, e⟩
theorem kept_has {m : Model} {ids : List Int} {a : Int} : hasT (keptV m ids) a = true ↔ hasT m a = true ∧ a ∈ ids := by
  rw [hasT_iff, hasT_iff]
  unfold idsM keptV
  simp only [List.mem_map, List.mem_filter, inT, decide_eq_true_iff]
  constructor
  · rintro ⟨t, ⟨h1, h2⟩, rfl⟩
    exact ⟨⟨t, h1, rfl⟩, h2⟩
  · rintro ⟨⟨t, h1, rfl⟩, h2⟩
    exact ⟨t, ⟨h1, h2⟩, rfl⟩
theorem kept_flds {m : Model} (r : RM m) {ids : List Int} {a : Int} (h : hasT (keptV m ids) a = true) : flds (keptV m ids) a = flds m a := by
  obtain ⟨t, ht, rfl⟩ := has_of h
  rw [flds_of (r.kept ids) ht, flds_of r (List.mem_filter.1 ht).1]
theorem rch_kept {m : Model} (r : RM m) (vs : List Val) : (idsM (keptV m ((idsM m).filter (rchT m vs)))).filter (rchT (keptV m ((idsM m).filter (rchT m vs))) vs) = (idsM m).filter (rchT m vs) := by
  have inR : ∀ {a}, a ∈ (idsM m).filter (rchT m vs) ↔ RchT m vs a := fun {a} => by
    rw [List.mem_filter, rchT_iff]
    exact ⟨fun h => h.2, fun h => ⟨hasT_iff.1 h.has, h⟩⟩
  have to : ∀ a, RchT m vs a → RchT (keptV m ((idsM m).filter (rchT m vs))) vs a := by
    intro a h
    induction h with
    | base h1 h2 => exact .base (kept_has.2 ⟨h1, inR.2 (.base h1 h2)⟩) h2
    | step h0 h1 h2 ih => exact .step ih (by rw [kept_flds r ih.has]; exact h1) (kept_has.2 ⟨h2, inR.2 (.step h0 h1 h2)⟩)
  have back : ∀ a, RchT (keptV m ((idsM m).filter (rchT m vs))) vs a → RchT m vs a := by
    intro a h
    induction h with
    | base h1 h2 => exact .base (kept_has.1 h1).1 h2
    | step h0 h1 h2 ih =>
      rw [kept_flds r h0.has] at h1
      exact .step ih h1 (kept_has.1 h2).1
  refine sortedM (List.Pairwise.filter _ (ids_sorted (r.kept _))) (List.Pairwise.filter _ (ids_sorted r)) fun a => ?_
  rw [inR, List.mem_filter, rchT_iff]
  exact ⟨fun h => back a h.2, fun h => ⟨hasT_iff.1 (to a h).has, to a h⟩⟩

/-! ### the graph's model -/
structure GM (m : Model) (sz : Nat → Nat) (n : Nat) : Prop where
  nx : m.1 = (n : Int)
  len : m.2.1.length = n
  id : ∀ k, k < n → (m.2.1.getD k zt).1 = (k : Int)
  fl : ∀ k, k < n → (m.2.1.getD k zt).2.1.length = sz k
  sk : m.2.2.1.length = 0
section
variable {m : Model} {sz : Nat → Nat} {n : Nat} (hz : ∀ k, sz k ≤ 15)
include hz
theorem GM.rm (g : GM m sz n) : RM m := by
  refine ⟨fun i hi => ?_, fun i j hij hj => ?_⟩
  · have hi : i < n := by rw [← g.len]; exact hi
    rw [g.id i hi, g.fl i hi, g.nx]
    have := hz i
    omega
  · have hj : j < n := by rw [← g.len]; exact hj
    rw [g.id i (by omega), g.id j hj]; omega
theorem GM.lm (g : GM m sz n) (hn : n ≤ 1000) : LM m := by
  refine ⟨by rw [g.len]; exact hn, fun i hi => ?_, by rw [g.sk]; omega, fun i hi => by rw [g.sk] at hi; omega⟩
  have hi : i < n := by rw [← g.len]; exact hi
  have := hz i
  rw [g.fl i hi]; omega
omit hz in
theorem GM.fi (g : GM m sz n) (a : Int) : (0 ≤ a ∧ a < (n : Int) → fi m a = some a.toNat) ∧ (¬ (0 ≤ a ∧ a < (n : Int)) → fi m a = none) := by
  have hl := g.len
  constructor
  · intro ⟨h0, h1⟩
    cases hf : Den.fi m a with
    | none => exact absurd (by rw [g.id a.toNat (by omega)]; omega) (fi_none hf a.toNat (by omega))
    | some k =>
      obtain ⟨h2, h3⟩ := fi_some hf
      rw [g.id k (by omega)] at h3
      congr 1; omega
  · intro h
    cases hf : Den.fi m a with
    | none => rfl
    | some k =>
      obtain ⟨h2, h3⟩ := fi_some hf
      rw [g.id k (by omega)] at h3
      omega
omit hz in
theorem GM.has (g : GM m sz n) {a : Int} (h0 : 0 ≤ a) (h1 : a < (n : Int)) : hasT m a = true := by
  unfold hasT gtV
  rw [(g.fi a).1 ⟨h0, h1⟩]
omit hz in
theorem GM.mk' (g : GM m sz n) : GM (mkV m (sz n)) sz (n + 1) := by
  have hl := g.len
  have hnx := g.nx
  refine ⟨by show m.1 + 1 = _; omega, by show (m.2.1 ++ [_]).length = _; rw [List.length_append, List.length_singleton]; omega, fun k hk => ?_, fun k hk => ?_, g.sk⟩
  all_goals
    show _ = _
    by_cases c : k < n
  · have : (mkV m (sz n)).2.1.getD k zt = m.2.1.getD k zt := by
      show (m.2.1 ++ [_]).getD k zt = _
      rw [List.getD, List.getD, List.getElem?_append_left (by omega)]
    rw [this]; exact g.id k c
  · obtain rfl : k = n := by omega
    have : (mkV m (sz k)).2.1.getD k zt = (m.1, List.replicate (sz k) ((0, 0, ()) : Val), ()) := by
      show (m.2.1 ++ [_]).getD k zt = _
      rw [List.getD, List.getElem?_append_right (by omega), hl]; simp
    rw [this]; exact g.nx
  · have : (mkV m (sz n)).2.1.getD k zt = m.2.1.getD k zt := by
      show (m.2.1 ++ [_]).getD k zt = _
      rw [List.getD, List.getD, List.getElem?_append_left (by omega)]
    rw [this]; exact g.fl k c
  · obtain rfl : k = n := by omega
    have : (mkV m (sz k)).2.1.getD k zt = (m.1, List.replicate (sz k) ((0, 0, ()) : Val), ()) := by
      show (m.2.1 ++ [_]).getD k zt = _
      rw [List.getD, List.getElem?_append_right (by omega), hl]; simp
    rw [this]; exact List.length_replicate
omit hz in
theorem GM.set' (g : GM m sz n) (a f : Int) (v : Val) : ∃ m', GM m' sz n ∧ ((setV m a f v = (m', true, ()) ∧ 0 ≤ a ∧ a < (n : Int) ∧ 0 ≤ f ∧ f < (sz a.toNat : Int) ∧ (gtV m' a).1.2.1.length = sz a.toNat ∧ (gtV m' a).1.2.1.getD f.toNat (0, 0, ()) = v) ∨
    (setV m a f v = (m', false, ()) ∧ ¬ (0 ≤ a ∧ a < (n : Int) ∧ 0 ≤ f ∧ f < (sz a.toNat : Int)))) := by
  have hl := g.len
  by_cases ha : 0 ≤ a ∧ a < (n : Int)
  · have hk : a.toNat < n := by omega
    have hfl := g.fl _ hk
    by_cases hf : f < 0 ∨ ((m.2.1.getD a.toNat zt).2.1.length : Int) ≤ f
    · refine ⟨m, g, .inr ⟨?_, by omega⟩⟩
      unfold setV
      rw [(g.fi a).1 ha]
      exact if_pos hf
    · have hs : ∀ k, (m.2.1.set a.toNat ((m.2.1.getD a.toNat zt).1, (m.2.1.getD a.toNat zt).2.1.set f.toNat v, ())).getD k zt = if a.toNat = k then ((m.2.1.getD a.toNat zt).1, (m.2.1.getD a.toNat zt).2.1.set f.toNat v, ()) else m.2.1.getD k zt := fun k => by
        rw [List.getD, List.getElem?_set]
        by_cases c : a.toNat = k
        · rw [if_pos c, if_pos c, if_pos (by omega)]; rfl
        · rw [if_neg c, if_neg c]; rfl
      have g' : GM (m.1, m.2.1.set a.toNat ((m.2.1.getD a.toNat zt).1, (m.2.1.getD a.toNat zt).2.1.set f.toNat v, ()), m.2.2) sz n := by
        refine ⟨g.nx, by show (m.2.1.set _ _).length = n; rw [List.length_set]; exact hl, fun k hk' => ?_, fun k hk' => ?_, g.sk⟩
        · show ((m.2.1.set _ _).getD k zt).1 = _
          rw [hs k]
          split
          · next c => subst c; exact g.id _ hk
          · exact g.id k hk'
        · show ((m.2.1.set _ _).getD k zt).2.1.length = _
          rw [hs k]
          split
          · next c =>
            subst c
            show ((m.2.1.getD a.toNat zt).2.1.set f.toNat v).length = _
            rw [List.length_set]; exact hfl
          · exact g.fl k hk'
      have hg : (gtV (m.1, m.2.1.set a.toNat ((m.2.1.getD a.toNat zt).1, (m.2.1.getD a.toNat zt).2.1.set f.toNat v, ()), m.2.2) a).1.2.1 = (m.2.1.getD a.toNat zt).2.1.set f.toNat v := by
        unfold gtV
        rw [(g'.fi a).1 ha]
        show ((m.2.1.set _ _).getD a.toNat zt).2.1 = _
        rw [hs, if_pos rfl]
      refine ⟨_, g', .inl ⟨?_, ha.1, ha.2, by omega, by omega, ?_, ?_⟩⟩
      · unfold setV
        rw [(g.fi a).1 ha]
        exact if_neg hf
      · rw [hg, List.length_set]; exact hfl
      · rw [hg, List.getD, List.getElem?_set, if_pos rfl, if_pos (by omega)]
        rfl
  · refine ⟨m, g, .inr ⟨?_, fun h => ha ⟨h.1, h.2.1⟩⟩⟩
    unfold setV
    rw [(g.fi a).2 ha]
end

def szV (v0 : List Int) (k : Nat) : Nat := (v0.getD k 0).toNat % 16
theorem szV_le (v0 : List Int) (k : Nat) : szV v0 k ≤ 15 := by unfold szV; omega
theorem szV_eq {v0 : List Int} (h : ∀ x ∈ v0, (0 : Int) ≤ x ∧ x ≤ 255) (k : Nat) : wi64 ((v0.getD k 0).tmod 16) = (szV v0 k : Int) := by
  have h0 : (0 : Int) ≤ v0.getD k 0 := by
    by_cases c : k < v0.length
    · rw [get_d _ _ _ c]; exact (h _ (List.getElem_mem c)).1
    · rw [List.getD, List.getElem?_eq_none (by omega)]; exact Int.le_refl _
  have : (v0.getD k 0).tmod 16 = (szV v0 k : Int) := by
    rw [Int.tmod_eq_emod_of_nonneg h0]; unfold szV; omega
  have := szV_le v0 k
  rw [‹(v0.getD k 0).tmod 16 = _›, wi64_id (by omega) (by omega)]
def rtV (v2 : List Int) : List Val := v2.map fun b => ((2, wi64 (b.tmod 16), ()) : Val)

section
variable {v0 : List Int} {v1 : List Link} {v2 : List Int} (h0 : v0.length ≤ 12) (h1 : v1.length ≤ 40) (h2 : v2.length ≤ 8) (b0 : ∀ x ∈ v0, (0 : Int) ≤ x ∧ x ≤ 255) (b2 : ∀ x ∈ v2, (0 : Int) ≤ x ∧ x ≤ 255)
include h0 b0
theorem graph_l0 {m : Model} (g : GM m (szV v0) 0) : ∃ l, flotsamlaw24_ModelGraph_l0 (v0, v1, v2, 0, m.1, m.2.2, m.2.1, ()) = some l ∧ ∃ m', l = .out (v0, v1, v2, m'.1, m'.2.2, m'.2.1, ()) ∧ GM m' (szV v0) v0.length := by
  unfold flotsamlaw24_ModelGraph_l0
  refine iterL_rule (fun k x => ∃ (i : Nat) (m : Model), i ≤ v0.length ∧ k = v0.length - i ∧ x = (v0, v1, v2, (i : Int), m.1, m.2.2, m.2.1, ()) ∧ GM m (szV v0) i) ?_ _ v0.length _ (by omega) ⟨0, m, by omega, rfl, rfl, g⟩
  rintro k x ⟨i, m, i1, rfl, rfl, g⟩
  simp only [flotsamlaw24_ModelGraph_s0, flotsamlaw24_ModelGraph_s0r, Bool.cond_decide, Int.toNat_natCast, ibne]
  by_cases c : i < v0.length
  · left
    have hl := g.len
    have hx := g.nx
    rw [if_pos (by omega), if_pos (by omega), if_pos (by omega), szV_eq b0, show (m.1, m.2.1, m.2.2) = m from rfl, make_eqM (by omega) (by omega) (by omega) (szV_le v0 i), Option.bind_some]
    dsimp only
    rw [if_neg (by omega), wi64_id (by omega) (by omega)]
    exact ⟨v0.length - (i + 1), _, by omega, rfl, i + 1, mkV m (szV v0 i), by omega, rfl, rfl, g.mk'⟩
  · right
    obtain rfl : i = v0.length := by omega
    exact ⟨_, by rw [if_neg (by omega)], m, rfl, g⟩
include h1
theorem graph_l1 {m : Model} (g : GM m (szV v0) v0.length) : ∃ l, flotsamlaw24_ModelGraph_l1 (v0, v1, v2, 0, m, ()) = some l ∧ ∃ m', l = .out (v0, v2, m', ()) ∧ GM m' (szV v0) v0.length := by
  unfold flotsamlaw24_ModelGraph_l1
  refine iterL_rule (fun k x => ∃ (i : Nat) (m : Model), i ≤ v1.length ∧ k = v1.length - i ∧ x = (v0, v1, v2, (i : Int), m, ()) ∧ GM m (szV v0) v0.length) ?_ _ v1.length _ (by omega) ⟨0, m, by omega, rfl, rfl, g⟩
  rintro k x ⟨i, m, i1, rfl, rfl, g⟩
  by_cases c : i < v1.length
  · left
    obtain ⟨m', g', hh⟩ := g.set' (v1.getD i (0, 0, (0, 0, ()), ())).1 (v1.getD i (0, 0, (0, 0, ()), ())).2.1 (v1.getD i (0, 0, (0, 0, ()), ())).2.2.1
    suffices hs : flotsamlaw24_ModelGraph_s1 (v0, v1, v2, (i : Int), m, ()) = some (.next (v0, v1, v2, wi64 ((i : Int) + 1), m', ())) by
      rw [wi64_id (by omega) (by omega)] at hs
      exact ⟨v1.length - (i + 1), _, by omega, hs, i + 1, m', by omega, rfl, rfl, g'⟩
    have rm := g.rm (szV_le v0)
    have lm := g.lm (szV_le v0) (by omega)
    have rm' := g'.rm (szV_le v0)
    have hl' := g'.len
    obtain ⟨⟨a, f, v, ⟨⟩⟩, hL⟩ : ∃ L : Link, v1.getD i (0, 0, (0, 0, ()), ()) = L := ⟨_, rfl⟩
    rw [hL] at hh
    simp only [flotsamlaw24_ModelGraph_s1, flotsamlaw24_ModelGraph_s1r, Int.toNat_natCast, hL]
    simp only [Bool.cond_decide, szV_eq b0]
    rw [if_pos (by omega), if_pos (by omega), if_pos (by omega), set_eqM rm lm, Option.bind_some]
    dsimp only at hh ⊢
    rcases hh with ⟨e, ha, hb, hc, hd, he, hf⟩ | ⟨e, hno⟩
    · rw [e]
      dsimp only
      have hif : (if a < 0 then (0 : Int) else a) = a := if_neg (by omega)
      simp only [hif]
      rw [if_pos (by omega), if_pos (by omega), if_pos (by omega), if_pos (by omega), if_pos (by omega), decide_eq_true hd]
      simp only [beq_self_eq_true, Bool.not_true, cond_false, cond_true]
      rw [get_eqM rm' (by omega), Option.bind_some]
      rw [if_neg (by omega), if_pos (by omega), if_pos (by omega), hf]
      simp only [beq_self_eq_true, Bool.and_self, Bool.not_true, cond_false]
    · rw [e]
      dsimp only
      by_cases ha : a ≥ 0
      · rw [if_pos ha]
        have hif : (if a < 0 then (0 : Int) else a) = a := if_neg (by omega)
        simp only [hif]
        by_cases hb : a < (v0.length : Int)
        · rw [if_pos hb]
          by_cases hc : f ≥ 0
          · have hd : decide (f < (szV v0 a.toNat : Int)) = false := decide_eq_false (fun h => hno ⟨ha, hb, hc, h⟩)
            rw [if_pos hc, if_pos (by omega), if_pos hb, hd]
            simp only [beq_self_eq_true, Bool.not_true, cond_false]
            rw [get_eqM rm' (by omega), Option.bind_some]
          · rw [if_neg hc]
            simp only [beq_self_eq_true, Bool.not_true, cond_false]
            rw [get_eqM rm' (by omega), Option.bind_some]
        · rw [if_neg hb]
          simp only [beq_self_eq_true, Bool.not_true, cond_false]
          rw [get_eqM rm' (by omega), Option.bind_some]
      · rw [if_neg ha]
        simp only [beq_self_eq_true, Bool.not_true, cond_false]
        rw [get_eqM rm' (by omega), Option.bind_some]
  · right
    simp only [flotsamlaw24_ModelGraph_s1, flotsamlaw24_ModelGraph_s1r, Bool.cond_decide]
    exact ⟨_, by rw [if_neg (by omega)], m, rfl, g⟩
omit h0 h1 b0 in
include h2 in
theorem graph_l2 (m : Model) : flotsamlaw24_ModelGraph_l2 (v0, v2, 0, m, [], ()) = some (.out (v0, m, rtV v2, ())) := by
  unfold flotsamlaw24_ModelGraph_l2
  refine iterL_run v2.length (fun i => (v0, v2, (i : Int), m, rtV (v2.take i), ())) (fun i hi => ?_) ?_ (by omega) rfl
  · have ht : rtV (v2.take (i + 1)) = rtV (v2.take i) ++ [(2, wi64 ((v2.getD i 0).tmod 16), ())] := by
      rw [get_d _ _ _ hi]
      unfold rtV
      rw [show v2.take (i + 1) = v2.take i ++ [v2[i]] from (List.take_append_getElem hi).symm, List.map_append]; rfl
    have hl : (rtV (v2.take i)).length ≤ 8 := by unfold rtV; rw [List.length_map, List.length_take]; omega
    simp only [flotsamlaw24_ModelGraph_s2, flotsamlaw24_ModelGraph_s2r, Bool.cond_decide, Int.toNat_natCast, ht]
    rw [wi64_id (n := (i : Int) + 1) (by omega) (by omega)]
    repeat rw [if_pos (by omega)]
    rfl
  · simp only [flotsamlaw24_ModelGraph_s2, flotsamlaw24_ModelGraph_s2r, Bool.cond_decide]
    rw [if_neg (by omega), List.take_of_length_le (Nat.le_refl _)]
end
theorem nameM_at {vs : List Val} {i : Nat} (hi : i < vs.length) (h : vs[i].1 = 2) : nameM vs vs[i].2.1 = true := by
  unfold nameM
  rw [List.any_eq_true]
  exact ⟨vs[i], List.getElem_mem hi, by simp [h]⟩
section
variable {v0 : List Int} {m : Model} {vs : List Val} (h0 : v0.length ≤ 12) (g : GM m (szV v0) v0.length)
include h0 g
theorem graph_l3 (i : Int) {a : Int} (ra : RchT m vs a) {R : List Int} (hR : R.length ≤ 1000) (hin : ∀ b, RchT m vs b → b ∈ R) :
    flotsamlaw24_ModelGraph_l3 (v0, i, 0, m, (gtV m a).1, vs, R, ()) = some (.out (v0, i, m, vs, R, ())) := by
  have hlen := gt_len (g.lm (szV_le v0) (by omega)) a
  unfold flotsamlaw24_ModelGraph_l3
  refine iterL_run (gtV m a).1.2.1.length (fun k => (v0, i, (k : Int), m, (gtV m a).1, vs, R, ())) (fun k hk => ?_) ?_ (by omega) rfl
  · simp only [flotsamlaw24_ModelGraph_s3, flotsamlaw24_ModelGraph_s3r, Bool.cond_decide, Int.toNat_natCast, ibeq, get_d (gtV m a).1.2.1 k _ hk, inW R _ (show R.length < 9223372036854775807 by omega), Option.bind_some]
    rw [if_pos (by omega), if_pos (by omega), if_pos (by omega), wi64_id (by omega) (by omega)]
    by_cases c : (gtV m a).1.2.1[k].1 = 2
    · rw [if_pos c]
      by_cases c1 : (gtV m a).1.2.1[k].2.1 ≥ 0
      · rw [if_pos c1]
        by_cases c2 : (gtV m a).1.2.1[k].2.1 < (v0.length : Int)
        · have hm : (gtV m a).1.2.1[k].2.1 ∈ R := hin _ (.step ra (nameM_at hk c) (g.has c1 c2))
          rw [if_pos c2, decide_eq_true hm]
          rfl
        · rw [if_neg c2]; rfl
      · rw [if_neg c1]; rfl
    · rw [if_neg c]; rfl
  · simp only [flotsamlaw24_ModelGraph_s3, flotsamlaw24_ModelGraph_s3r, Bool.cond_decide]
    rw [if_neg (by omega)]
theorem graph_l4 {R : List Int} (hR : R.length ≤ 1000) (hin : ∀ b, b ∈ R ↔ RchT m vs b) :
    flotsamlaw24_ModelGraph_l4 (v0, 0, m, vs, R, ()) = some (.out (v0, m, vs, R, ())) := by
  have rm := g.rm (szV_le v0)
  have hl := g.len
  unfold flotsamlaw24_ModelGraph_l4
  refine iterL_run R.length (fun k => (v0, (k : Int), m, vs, R, ())) (fun k hk => ?_) ?_ (by omega) rfl
  · have ra : RchT m vs R[k] := (hin _).1 (List.getElem_mem hk)
    have hh : (gtV m R[k]).2.1 = true := ra.has
    simp only [flotsamlaw24_ModelGraph_s4, flotsamlaw24_ModelGraph_s4r, Bool.cond_decide, Int.toNat_natCast, get_d R k _ hk]
    rw [if_pos (by omega), if_pos (by omega), if_pos (by omega), get_eqM rm (by omega), Option.bind_some, hh, graph_l3 h0 g (k : Int) ra hR (fun b hb => (hin b).2 hb)]
    simp only [Bool.not_true, cond_false, Option.bind_some]
    rw [wi64_id (by omega) (by omega)]
    rfl
  · simp only [flotsamlaw24_ModelGraph_s4, flotsamlaw24_ModelGraph_s4r, Bool.cond_decide]
    rw [if_neg (by omega)]
theorem graph_l5 (hv : vs.length ≤ 8) (hvs : ∀ i (h : i < vs.length), vs[i].1 = 2 ∧ 0 ≤ vs[i].2.1) {R : List Int} (hR : R.length ≤ 1000) (hin : ∀ b, b ∈ R ↔ RchT m vs b) :
    flotsamlaw24_ModelGraph_l5 (v0, 0, m, vs, R, ()) = some (.out (m, vs, R, ())) := by
  unfold flotsamlaw24_ModelGraph_l5
  refine iterL_run vs.length (fun k => (v0, (k : Int), m, vs, R, ())) (fun k hk => ?_) ?_ (by omega) rfl
  · have hvk := hvs k hk
    simp only [flotsamlaw24_ModelGraph_s5, flotsamlaw24_ModelGraph_s5r, Bool.cond_decide, Int.toNat_natCast, get_d vs k _ hk, inW R _ (show R.length < 9223372036854775807 by omega), Option.bind_some]
    rw [if_pos (by omega), if_pos (by omega), if_pos (by omega), wi64_id (by omega) (by omega)]
    by_cases c : vs[k].2.1 < (v0.length : Int)
    · have hm : vs[k].2.1 ∈ R := (hin _).2 (.base (g.has hvk.2 c) (nameM_at hk hvk.1))
      rw [if_pos c, if_pos (by omega), if_pos (by omega), decide_eq_true hm]
      rfl
    · rw [if_neg c]; rfl
  · simp only [flotsamlaw24_ModelGraph_s5, flotsamlaw24_ModelGraph_s5r, Bool.cond_decide]
    rw [if_neg (by omega)]
end
theorem modelGraph_pure : ∀ x, Good (.cons (.sl (.int .u8)) (.cons (.sl cLink) (.cons (.sl (.int .u8)) .nil))) x → flotsamlaw24_ModelGraph x = some (true, ()) := by
  rintro ⟨(v0 : List Int), (v1 : List Link), (v2 : List Int), ⟨⟩⟩ ⟨g0, -, g2, -⟩
  have b0 : ∀ x ∈ v0, (0 : Int) ≤ x ∧ x ≤ 255 := g0.2
  have b2 : ∀ x ∈ v2, (0 : Int) ≤ x ∧ x ≤ 255 := g2.2
  simp only [flotsamlaw24_ModelGraph, flotsamlaw24_ModelGraph_r, awake24, Option.bind_some, Bool.not_true, cond_false, Bool.cond_decide]
  by_cases c0 : (v0.length : Int) > 12
  · rw [if_pos c0]
  by_cases c1 : (v1.length : Int) > 40
  · rw [if_neg c0, if_pos c1]
  by_cases c2 : (v2.length : Int) > 8
  · rw [if_neg c0, if_neg c1, if_pos c2]
  have h0 : v0.length ≤ 12 := by omega
  have h1 : v1.length ≤ 40 := by omega
  have h2 : v2.length ≤ 8 := by omega
  have hN : model_New (0, ()) = some ((0, [], [], ()), ()) := by
    simp only [model_New, model_New_r, Bool.cond_decide, beq_self_eq_true, cond_true]
    rfl
  rw [if_neg c0, if_neg c1, if_neg c2, hN, Option.bind_some]
  have gz : GM ((0, [], [], ()) : Model) (szV v0) 0 := ⟨rfl, rfl, fun k hk => by omega, fun k hk => by omega, rfl⟩
  obtain ⟨l, e, (m1 : Model), rfl, g1⟩ := graph_l0 (v1 := v1) (v2 := v2) h0 b0 gz
  have e : flotsamlaw24_ModelGraph_l0 (v0, v1, v2, 0, 0, ([], ()), [], ()) = some (.out (v0, v1, v2, m1.1, m1.2.2, m1.2.1, ())) := e
  dsimp only
  rw [e, Option.bind_some]
  dsimp only
  obtain ⟨l, e, (m : Model), rfl, g⟩ := graph_l1 (v2 := v2) h0 h1 b0 g1
  rw [show (m1.1, m1.2.1, m1.2.2) = m1 from rfl, e, Option.bind_some]
  dsimp only
  rw [graph_l2 h2 m, Option.bind_some]
  dsimp only
  have rm := g.rm (szV_le v0)
  have lm := g.lm (szV_le v0) (by omega)
  have hx : m.1 = (v0.length : Int) := g.nx
  have hl : m.2.1.length = v0.length := g.len
  have hv : (rtV v2).length ≤ 8 := by unfold rtV; rw [List.length_map]; exact h2
  have hvs : ∀ i (h : i < (rtV v2).length), (rtV v2)[i].1 = 2 ∧ 0 ≤ (rtV v2)[i].2.1 := fun i h => by
    have hi : i < v2.length := by unfold rtV at h; rwa [List.length_map] at h
    have e : (rtV v2)[i] = (2, wi64 (v2[i].tmod 16), ()) := List.getElem_map _
    have := szV_eq b2 i
    rw [get_d _ _ _ hi] at this
    rw [e]
    dsimp only
    rw [this]
    exact ⟨rfl, by omega⟩
  have hR : ((idsM m).filter (rchT m (rtV v2))).length ≤ 1000 := by
    have h := List.length_filter_le (rchT m (rtV v2)) (idsM m)
    have : (idsM m).length = m.2.1.length := by simp [idsM]
    omega
  have hin : ∀ b, b ∈ (idsM m).filter (rchT m (rtV v2)) ↔ RchT m (rtV v2) b := fun b => by
    rw [List.mem_filter, rchT_iff]
    exact ⟨fun h => h.2, fun h => ⟨hasT_iff.1 h.has, h⟩⟩
  have nx : m.1 < 1152921504606846976 := by rw [hx]; omega
  have rk := rm.kept ((idsM m).filter (rchT m (rtV v2)))
  have lk := lm.kept ((idsM m).filter (rchT m (rtV v2)))
  rw [reach_eqM rm lm (fun i hi => (rm.id i hi).2.2) (ids_in rm nx) (by omega), Option.bind_some]
  dsimp only
  rw [graph_l4 h0 g hR hin, Option.bind_some]
  dsimp only
  rw [graph_l5 h0 g hv hvs hR hin, Option.bind_some]
  dsimp only
  rw [kept_eqM (by omega) (by omega), Option.bind_some]
  dsimp only
  rw [reach_eqM rk lk (fun i hi => (rk.id i hi).2.2) (ids_in rk nx) (by omega), Option.bind_some]
  dsimp only
  rw [rch_kept rm, intsW _ (by omega), Option.bind_some]
end Go.Proofs.Ytdiogegolnoeoaa.Den
