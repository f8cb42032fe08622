/- The pure law MarkEnds. -/
import Derived.Test.YtdiogegolnoeoaaDoorDenVg
namespace Go.Proofs.YtdiogegolnoeoaaDoor.Den
open Go
set_option linter.unusedVariables false
set_option linter.unusedSimpArgs false
set_option maxRecDepth 100000

def rfV (l : List Int) : List Val := l.map fun a => (2, a, ())
theorem rfV_take (l : List Int) (i : Nat) (hi : i < l.length) : rfV (l.take (i + 1)) = rfV (l.take i) ++ [(2, l[i], ())] := by
  unfold rfV
  rw [← List.take_append_getElem hi, List.map_append]
  rfl
theorem rfV_len (l : List Int) : (rfV l).length = l.length := by
  unfold rfV
  rw [List.length_map]
theorem named_rfV {l : List Int} {p : Int} : named (rfV l) p = true ↔ p ∈ l := by
  unfold named rfV one
  rw [List.any_map, List.any_eq_true]
  constructor
  · rintro ⟨a, ha, e⟩
    simp only [Function.comp, Bool.and_eq_true, beq_iff_eq] at e
    rw [← e.2]; exact ha
  · intro h
    exact ⟨p, h, by simp⟩
theorem named_two (a b : List Val) (p : Int) : named (a ++ b) p = true ↔ named a p = true ∨ named b p = true := by
  unfold named
  rw [List.any_append, Bool.or_eq_true]
theorem ends_l0 (h : Heap) (m : MarkT) (was : List Int) (vs : List Val) (hl : was.length ≤ 100000) (hv : vs.length ≤ 100000) : flotsamlaw17_MarkEnds_l0 (0, h, m, was, vs, ()) = some (.out (h, m, was, vs ++ rfV was, ())) := by
  unfold flotsamlaw17_MarkEnds_l0
  refine iterL_run was.length (fun i => ((i : Int), h, m, was, vs ++ rfV (was.take i), ())) (fun i hi => ?_) ?_ (by omega) (by simp [rfV])
  · have h1 := rfV_len (was.take i)
    rw [List.length_take] at h1
    have h2 : (vs ++ rfV (was.take i)).length ≤ 200000 := by rw [List.length_append]; omega
    simp only [flotsamlaw17_MarkEnds_s0, flotsamlaw17_MarkEnds_s0r, Bool.cond_decide, Int.toNat_natCast, get_d _ _ _ hi]
    rw [if_pos (by omega), if_pos (by omega), if_pos (by omega), if_pos (by omega), wi64_id (by omega) (by omega), rfV_take _ _ hi, List.append_assoc]
    rfl
  · simp only [flotsamlaw17_MarkEnds_s0, flotsamlaw17_MarkEnds_s0r, Bool.cond_decide]
    rw [if_neg (by omega), List.take_length]
theorem ends_l1 (h : Heap) (m : MarkT) (was : List Int) (vs : List Val) (hl : m.1.2.1.length ≤ 100000) (hv : vs.length ≤ 200000) : flotsamlaw17_MarkEnds_l1 (0, h, m, was, vs, ()) = some (.out (h, m, was, vs ++ rfV m.1.2.1, ())) := by
  unfold flotsamlaw17_MarkEnds_l1
  refine iterL_run m.1.2.1.length (fun i => ((i : Int), h, m, was, vs ++ rfV (m.1.2.1.take i), ())) (fun i hi => ?_) ?_ (by omega) (by simp [rfV])
  · have h1 := rfV_len (m.1.2.1.take i)
    rw [List.length_take] at h1
    have h2 : (vs ++ rfV (m.1.2.1.take i)).length ≤ 400000 := by rw [List.length_append]; omega
    simp only [flotsamlaw17_MarkEnds_s1, flotsamlaw17_MarkEnds_s1r, Bool.cond_decide, Int.toNat_natCast, get_d _ _ _ hi]
    rw [if_pos (by omega), if_pos (by omega), if_pos (by omega), if_pos (by omega), wi64_id (by omega) (by omega), rfV_take _ _ hi, List.append_assoc]
    rfl
  · simp only [flotsamlaw17_MarkEnds_s1, flotsamlaw17_MarkEnds_s1r, Bool.cond_decide]
    rw [if_neg (by omega), List.take_length]
theorem ends_l2 (h : Heap) (m : MarkT) (was : List Int) (vs : List Val) {k : Nat} (hk : k < m.2.1.length) (hb : m.2.1.length ≤ 10) (hl : m.2.1[k].2.1.length ≤ 100000) (hv : vs.length ≤ 2000000) : flotsamlaw17_MarkEnds_l2 ((k : Int), 0, h, m, was, vs, ()) = some (.out ((k : Int), h, m, was, vs ++ rfV m.2.1[k].2.1, ())) := by
  unfold flotsamlaw17_MarkEnds_l2
  refine iterL_run m.2.1[k].2.1.length (fun i => ((k : Int), (i : Int), h, m, was, vs ++ rfV (m.2.1[k].2.1.take i), ())) (fun i hi => ?_) ?_ (by omega) (by simp [rfV])
  · have h1 := rfV_len (m.2.1[k].2.1.take i)
    rw [List.length_take] at h1
    have h2 : (vs ++ rfV (m.2.1[k].2.1.take i)).length ≤ 4000000 := by rw [List.length_append]; omega
    simp only [flotsamlaw17_MarkEnds_s2, flotsamlaw17_MarkEnds_s2r, Bool.cond_decide, Int.toNat_natCast, get_d _ _ _ hk, get_d _ _ _ hi]
    rw [if_pos (by omega), if_pos (by omega), if_pos (by omega), if_pos (by omega), if_pos (by omega), if_pos (by omega), if_pos (by omega), if_pos (by omega), wi64_id (by omega) (by omega), rfV_take _ _ hi, List.append_assoc]
    rfl
  · simp only [flotsamlaw17_MarkEnds_s2, flotsamlaw17_MarkEnds_s2r, Bool.cond_decide, Int.toNat_natCast, get_d _ _ _ hk]
    rw [if_pos (by omega), if_pos (by omega), if_neg (by omega), List.take_length]
def rowsV (l : List Grey) : List Val := l.flatMap fun g => rfV g.2.1
theorem rowsV_len : ∀ (l : List Grey), (∀ g ∈ l, GreyP g) → (rowsV l).length ≤ 16 * l.length
  | [], _ => Nat.le_refl _
  | g :: l, h => by
    have q := h g List.mem_cons_self
    have q1 := q.len
    have q2 := q.r16
    have := rowsV_len l fun x hx => h x (List.mem_cons_of_mem _ hx)
    have e : rowsV (g :: l) = rfV g.2.1 ++ rowsV l := rfl
    rw [e, List.length_append, rfV_len, List.length_cons]
    omega
theorem ends_l3 {h : Heap} {m : MarkT} (p : MkP h m) (was : List Int) (vs : List Val) (hv : vs.length ≤ 1000000) : flotsamlaw17_MarkEnds_l3 (0, h, m, was, vs, ()) = some (.out (h, m, was, vs ++ rowsV m.2.1, ())) := by
  have hb := p.bl
  unfold flotsamlaw17_MarkEnds_l3
  refine iterL_run m.2.1.length (fun i => ((i : Int), h, m, was, vs ++ rowsV (m.2.1.take i), ())) (fun i hi => ?_) ?_ (by omega) (by simp [rowsV])
  · have hm : m.2.1[i] ∈ m.2.1 := List.getElem_mem hi
    have q := p.b _ hm
    have q1 := q.len
    have q2 := q.r16
    have h1 := rowsV_len (m.2.1.take i) fun g hg => p.b g (List.mem_of_mem_take hg)
    rw [List.length_take] at h1
    have h2 : (vs ++ rowsV (m.2.1.take i)).length ≤ 2000000 := by rw [List.length_append]; omega
    have e : rowsV (m.2.1.take (i + 1)) = rowsV (m.2.1.take i) ++ rfV m.2.1[i].2.1 := by
      unfold rowsV
      rw [← List.take_append_getElem hi, List.flatMap_append]
      simp
    simp only [flotsamlaw17_MarkEnds_s3, flotsamlaw17_MarkEnds_s3r, Bool.cond_decide]
    rw [if_pos (by omega), ends_l2 h m was _ hi hb (by omega) h2]
    simp only [Option.bind_some]
    rw [wi64_id (by omega) (by omega), e, List.append_assoc]
    rfl
  · simp only [flotsamlaw17_MarkEnds_s3, flotsamlaw17_MarkEnds_s3r, Bool.cond_decide]
    rw [if_neg (by omega), List.take_length]
theorem named_rows {l : List Grey} {p : Int} : named (rowsV l) p = true ↔ ∃ g ∈ l, p ∈ g.2.1 := by
  induction l with
  | nil => simp [rowsV, named]
  | cons g l ih =>
    have e : rowsV (g :: l) = rfV g.2.1 ++ rowsV l := rfl
    rw [e, named_two, named_rfV, ih]
    simp
theorem ends_l4 {h0 : Heap} (f0 : FormP h0) (ap : apB h0 = true) {S : Int → Bool} {vs : List Val} {m : MarkT} (s : Snd h0 vs (pn h0 S) m) :
    flotsamlaw17_MarkEnds_l4 (0, h0, pn h0 S, (lst h0).filter (bk h0), (lst h0).filter (rchB h0 vs), (lst h0).filter (bk (pn h0 S)), lst h0, ()) = some (.out ()) := by
  have hL := lst_len f0
  have fl : ∀ p : Int → Bool, ((lst h0).filter p).length ≤ 512 := fun p => Nat.le_trans (List.length_filter_le _ _) hL
  have w1 := fl (bk h0)
  have w2 := fl (rchB h0 vs)
  have w3 := fl (bk (pn h0 S))
  have m1 : ∀ a, a ∈ (lst h0).filter (bk h0) → a ∈ (lst h0).filter (bk (pn h0 S)) := fun a ha => by
    rw [List.mem_filter] at ha ⊢
    refine ⟨ha.1, ?_⟩
    rw [bk_pn f0, show (og h0 a).2.1 = true from bk_ok ha.2, ha.2, Bool.or_true, Bool.and_true]
  have m2 : ∀ a, a ∈ (lst h0).filter (bk (pn h0 S)) → a ∈ (lst h0).filter (rchB h0 vs) := fun a ha => by
    rw [List.mem_filter] at ha ⊢
    exact ⟨ha.1, rchB_iff.2 (s.b a ha.2)⟩
  generalize (lst h0).filter (bk h0) = W1 at *
  generalize (lst h0).filter (rchB h0 vs) = W2 at *
  generalize (lst h0).filter (bk (pn h0 S)) = W3 at *
  unfold flotsamlaw17_MarkEnds_l4
  refine iterL_run (lst h0).length (fun i => ((i : Int), h0, pn h0 S, W1, W2, W3, lst h0, ())) (fun i hi => ?_) ?_ (by omega) rfl
  · have ho := (mem_lst f0).1 (List.getElem_mem hi)
    have r1 : flotsamref08_Refs (h0, (lst h0)[i], ()) = some (refsO h0 (lst h0)[i], ()) := refs8_eq f0 ho
    have r2 : flotsamref08_Refs (pn h0 S, (lst h0)[i], ()) = some (refsO h0 (lst h0)[i], ()) := by
      rw [← refsO_pn f0 ap S ho]
      exact refs8_eq (f0.pn S) (by rw [ok_pn f0]; exact ho)
    have r3 := refsO_len f0 ho
    have i0 : (0 : Int) ≤ i := by omega
    have i1 : (i : Int) < (lst h0).length := by omega
    simp only [flotsamlaw17_MarkEnds_s4, flotsamlaw17_MarkEnds_s4r, Bool.cond_decide, Int.toNat_natCast, get_d _ _ _ hi, r1, r2, in8_eq W1 _ (show W1.length < 9223372036854775807 by omega), in8_eq W2 _ (show W2.length < 9223372036854775807 by omega), in8_eq W3 _ (show W3.length < 9223372036854775807 by omega), ints_eq (refsO h0 (lst h0)[i]) (refsO h0 (lst h0)[i]) (by omega), Option.bind_some, i0, i1, if_true, condn, decide_true, cond_true, Bool.not_true, cond_false]
    rw [wi64_id (by omega) (by omega)]
    by_cases h3 : (lst h0)[i] ∈ W3
    · have h2 := m2 _ h3
      simp only [h2, h3, if_true]
      split <;> rfl
    · have h1 : ¬ (lst h0)[i] ∈ W1 := fun h => h3 (m1 _ h)
      simp only [h1, h3, if_false]
      rfl
  · simp only [flotsamlaw17_MarkEnds_s4, flotsamlaw17_MarkEnds_s4r, Bool.cond_decide]
    rw [if_neg (by omega)]
theorem ends_l5 {h0 : Heap} (f0 : FormP h0) (ap : apB h0 = true) {vs : List Val} {m0 : MarkT} (r0 : RunM h0 vs h0 m0) :
    flotsamlaw17_MarkEnds_l5 ((bnd h0 m0 : Int), 0, h0, m0, h0, (lst h0).filter (bk h0), (lst h0).filter (rchB h0 vs), ()) = some (.ret (true, ())) := by
  have hpot := pot_le f0 (S := fun _ => false) pn_none.symm r0.p
  have hbl := bnd_le f0 r0.p
  have hL := lst_len f0
  have key : ∃ l, flotsamlaw17_MarkEnds_l5 ((bnd h0 m0 : Int), 0, h0, m0, h0, (lst h0).filter (bk h0), (lst h0).filter (rchB h0 vs), ()) = some l ∧ l = .ret (true, ()) := by
    unfold flotsamlaw17_MarkEnds_l5
    refine iterL_rule (fun n x => ∃ (i : Nat) (h : Heap) (m : MarkT), x = ((bnd h0 m0 : Int), (i : Int), h0, m, h, (lst h0).filter (bk h0), (lst h0).filter (rchB h0 vs), ()) ∧ n = bnd h0 m0 + 1 - i ∧ pot h0 h m + i ≤ bnd h0 m0 ∧ RunM h0 vs h m) ?_ _ (bnd h0 m0 + 1) _ (by omega) ⟨0, h0, m0, rfl, by omega, by omega, r0⟩
    rintro n x ⟨i, h, m, rfl, rfl, hp, r⟩
    have f := r.form f0
    simp only [flotsamlaw17_MarkEnds_s5, flotsamlaw17_MarkEnds_s5r, Bool.cond_decide]
    rw [if_pos (by omega)]
    rw [show mark_Step (h, m, ()) = some (stp h m) from step_eq f r.p]
    simp only [Option.bind_some]
    rcases stp_cases f r.p with ⟨e, d⟩ | ⟨h', m', e, s⟩
    · rw [e]
      obtain ⟨S, eS⟩ := r.pt
      have rs := r.s
      subst eS
      simp only [cond_true]
      rw [black15_eq f, list_eq f0, list_eq f, lst_pn f0]
      simp only [Option.bind_some]
      rw [ints_eq _ _ (by omega)]
      simp only [Option.bind_some, decide_true, Bool.not_true, cond_false]
      rw [ends_l4 f0 ap rs]
      exact .inr ⟨_, rfl, rfl⟩
    · rw [e]
      obtain ⟨r', hp'⟩ := r.step f0 ap s
      have f' := r'.form f0
      have hb := r'.p.bl
      simp only [cond_false]
      rw [right17_eq f' m' (by omega), r'.p.rtB, wi64_id (by omega) (by omega)]
      exact .inl ⟨bnd h0 m0 + 1 - (i + 1), _, by omega, rfl, i + 1, h', m', rfl, rfl, by omega, r'⟩
  obtain ⟨l, e, rfl⟩ := key
  exact e
theorem markEnds_pure : ∀ x, Good (.cons cHeap (.cons cMarker .nil)) x → flotsamlaw17_MarkEnds x = some (true, ()) := by
  rintro ⟨(h : Heap), (m : MarkT), ⟨⟩⟩ ⟨gh, gm, -⟩
  have gh : Good cHeap h := gh
  have gm : Good cMarker m := gm
  obtain ⟨r, e1, e2⟩ := fits17 gh gm
  simp only [flotsamlaw17_MarkEnds, flotsamlaw17_MarkEnds_r, awake17, Option.bind_some, Bool.not_true, cond_false]
  rw [e1]
  simp only [Option.bind_some]
  cases r with
  | false => rfl
  | true =>
  obtain ⟨f, hl, p, hv⟩ := e2 rfl
  simp only [Bool.not_true, cond_false, apart_eq f, Option.bind_some]
  cases ap : apB h with
  | false => simp only [Bool.not_false, cond_true]
  | true =>
  have h3 := p.g.len
  have h4 := p.g.r16
  have hlst : (lst h).length ≤ 128 := by
    have := lstN_len h h.1.length
    unfold lst; omega
  have hwas : ((lst h).filter (bk h)).length ≤ 128 := Nat.le_trans (List.length_filter_le _ _) hlst
  simp only [Bool.not_true, cond_false, Bool.cond_decide, black15_eq f, Option.bind_some]
  rw [if_pos (by omega), ends_l0 h m _ _ (by omega) (by omega)]
  simp only [Option.bind_some]
  have fin : ∀ us : List Val, us.length ≤ 500 → (∀ a, okA h a = true → named m.2.2.1 a = true → named us a = true) → (∀ a ∈ (lst h).filter (bk h), named us a = true) → (m.2.2.2.1 ≠ -1 → named us m.2.2.2.1 = true) →
      RunM h ((us ++ rfV m.1.2.1) ++ rowsV m.2.1) h m ∧ ((us ++ rfV m.1.2.1) ++ rowsV m.2.1).length ≤ 1000 := by
    intro us hu q1 q2 q3
    have n1 : ∀ a, named us a = true → named ((us ++ rfV m.1.2.1) ++ rowsV m.2.1) a = true := fun a ha => by
      rw [named_two, named_two]; exact .inl (.inl ha)
    have lr := rowsV_len m.2.1 p.b
    have hb := p.bl
    refine ⟨⟨⟨fun _ => false, pn_none.symm⟩, p, ⟨fun a ha => .base (bk_ok ha) (n1 a (q2 a (List.mem_filter.2 ⟨(mem_lst f).2 (bk_ok ha), ha⟩))), fun a ha hn => .base ha (n1 a (q1 a ha hn)), fun a ha hi => .base ha ?_, fun ho => ?_⟩⟩, ?_⟩
    · rw [named_two, named_two]
      rcases hi with hi | hi
      · exact .inl (.inr (named_rfV.2 hi))
      · exact .inr (named_rows.2 hi)
    · have := fe_ok (p.ob.resolve_left fun h => ho h.1)
      exact .base this.1 (n1 _ (q3 ho))
    · rw [List.length_append, List.length_append, rfV_len]; omega
  have hbd := bound17_eq f p
  by_cases ho : m.2.2.2.1 ≥ 0
  · rw [if_pos ho]
    have hl1 : (m.2.2.1 ++ rfV ((lst h).filter (bk h))).length ≤ 428 := by rw [List.length_append, rfV_len]; omega
    rw [if_pos (by omega), ends_l1 h m _ _ (by omega) (by rw [List.length_append, List.length_singleton]; omega)]
    simp only [Option.bind_some]
    rw [ends_l3 p _ _ (by rw [List.length_append, List.length_append, List.length_singleton, rfV_len]; omega)]
    simp only [Option.bind_some]
    obtain ⟨r, hlen⟩ := fin (m.2.2.1 ++ rfV ((lst h).filter (bk h)) ++ [(2, m.2.2.2.1, ())]) (by rw [List.length_append, List.length_singleton]; omega)
      (fun a _ hn => by rw [named_two, named_two]; exact .inl (.inl hn))
      (fun a ha => by rw [named_two, named_two]; exact .inl (.inr (named_rfV.2 ha)))
      (fun _ => by rw [named_two]; exact .inr (by simp [named, one]))
    rw [from15_eq f hlen]
    simp only [Option.bind_some]
    rw [hbd]
    simp only [Option.bind_some]
    rw [ends_l5 f ap r]
    rfl
  · rw [if_neg ho]
    have hl1 : (m.2.2.1 ++ rfV ((lst h).filter (bk h))).length ≤ 428 := by rw [List.length_append, rfV_len]; omega
    rw [ends_l1 h m _ _ (by omega) (by omega)]
    simp only [Option.bind_some]
    rw [ends_l3 p _ _ (by rw [List.length_append, rfV_len]; omega)]
    simp only [Option.bind_some]
    obtain ⟨r, hlen⟩ := fin (m.2.2.1 ++ rfV ((lst h).filter (bk h))) (by omega)
      (fun a _ hn => by rw [named_two]; exact .inl hn)
      (fun a ha => by rw [named_two]; exact .inr (named_rfV.2 ha))
      (fun hn => by
        have := (fndB_rng (og_ok (fe_ok (p.ob.resolve_left fun h => hn h.1)).1).1).1
        exact absurd this ho)
    rw [from15_eq f hlen]
    simp only [Option.bind_some]
    rw [hbd]
    simp only [Option.bind_some]
    rw [ends_l5 f ap r]
    rfl
end Go.Proofs.YtdiogegolnoeoaaDoor.Den
