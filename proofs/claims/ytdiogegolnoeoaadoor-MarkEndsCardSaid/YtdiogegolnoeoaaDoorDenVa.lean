
/- Pure laws: what is reached, by the program. -/
import Derived.Test.YtdiogegolnoeoaaDoorDenSa
import Derived.Test.YtdiogegolnoeoaaDoorDenPr
import Derived.Test.YtdiogegolnoeoaaDoorDenPv
namespace Go.Proofs.YtdiogegolnoeoaaDoor.Den
open Go
set_option linter.unusedVariables false
set_option linter.unusedSimpArgs false
set_option maxRecDepth 100000

/-- To what an object refers, by the program. -/
theorem objRefs_eq {h : Heap} (f : FormP h) {a : Int} (ho : okA h a = true) : object_Refs (h, a, ()) = some (refsO h a, ()) := by
  have hn := f.n16
  have hl := f.len
  obtain ⟨r0, r1, r2, r3, r4⟩ := og_rng f ho
  obtain ⟨c, hc⟩ : ∃ c : Nat, (og h a).1.2.2.2.1 = c := ⟨_, (Int.toNat_of_nonneg r2).symm⟩
  have hcn : (cnt h a).toNat = c := by unfold cnt; omega
  have key : object_Refs_l0 (a, (c : Int), 0, h, [], ()) = some (.out (refsO h a, ())) := by
    unfold object_Refs_l0 refsO
    rw [hcn]
    refine iterL_run c (fun i => (a, (c : Int), (i : Int), h, rfN h a i, ())) (fun i hi => ?_) ?_ (by omega) (by simp [rfN])
    · have hw := word_at f (a + 1 + i).toNat
      have hm := rfN_len h a i
      simp only [object_Refs_s0, object_Refs_s0r, Bool.cond_decide]
      rw [wi64_id (n := a + 1) (by omega) (by omega), wi64_id (n := a + 1 + (i : Int)) (by omega) (by omega)]
      rw [if_pos (by omega), if_pos (by omega), if_pos (by omega), wordGet_eq, wg_rg hw.1 hw.2]
      simp only [Option.bind_some, ibeq, Bool.cond_decide]
      rw [wi64_id (n := (i : Int) + 1) (by omega) (by omega), rfN_succ]
      by_cases e : (rg (h.1.getD (a + 1 + i).toNat 0)).1 = 2
      · rw [if_pos e, if_pos (by omega), if_pos e]
        rfl
      · rw [if_neg e, if_neg e]
        rfl
    · simp only [object_Refs_s0, object_Refs_s0r, Bool.cond_decide]
      rw [if_neg (by omega)]
  simp only [object_Refs, object_Refs_r, objGet_eq f (a := a) (by omega) (by omega), Option.bind_some, hc, key]
/-- The addresses that a stack holds. -/
def vrefs (vs : List Val) : List Int := (vs.filter fun v => decide (v.1 = 2)).map fun v => v.2.1
theorem vrefs_take (vs : List Val) (i : Nat) (hi : i < vs.length) : vrefs (vs.take (i + 1)) = if (vs[i] : Val).1 = 2 then vrefs (vs.take i) ++ [(vs[i] : Val).2.1] else vrefs (vs.take i) := by
  unfold vrefs
  rw [← List.take_append_getElem hi, List.filter_append, List.map_append]
  by_cases e : (vs[i] : Val).1 = 2 <;> simp [e]
theorem vrefs_len (vs : List Val) : (vrefs vs).length ≤ vs.length := by
  unfold vrefs
  rw [List.length_map]
  exact List.length_filter_le _ _
theorem mem_vrefs {vs : List Val} {a : Int} : a ∈ vrefs vs ↔ named vs a = true := by
  unfold vrefs named one
  rw [List.mem_map, List.any_eq_true]
  constructor
  · rintro ⟨v, hv, rfl⟩
    rw [List.mem_filter] at hv
    have h2 := of_decide_eq_true hv.2
    exact ⟨v, hv.1, by simp [h2]⟩
  · rintro ⟨v, hv, h⟩
    simp only [Bool.and_eq_true, beq_iff_eq] at h
    exact ⟨v, List.mem_filter.2 ⟨hv, decide_eq_true h.1⟩, h.2⟩
theorem refs14_eq {vs : List Val} (hl : vs.length ≤ 1000000) : roots_Refs (vs, ()) = some (vrefs vs, ()) := by
  have key : roots_Refs_l0 (vs, (vs.length : Int), 0, [], ()) = some (.out (vrefs vs, ())) := by
    unfold roots_Refs_l0
    refine iterL_run vs.length (fun i => (vs, (vs.length : Int), (i : Int), vrefs (vs.take i), ())) (fun i hi => ?_) ?_ (by omega) (by simp [vrefs])
    · have h1 := vrefs_len (vs.take i)
      rw [List.length_take] at h1
      simp only [roots_Refs_s0, roots_Refs_s0r, Bool.cond_decide, ibeq]
      rw [if_pos (by omega), if_pos (by omega), if_pos (by omega), Int.toNat_natCast, get_d _ _ _ hi, wi64_id (by omega) (by omega), vrefs_take vs i hi]
      by_cases e : (vs[i] : Val).1 = 2
      · rw [if_pos e, if_pos (by omega), if_pos e]
        rfl
      · rw [if_neg e, if_neg e]
        rfl
    · simp only [roots_Refs_s0, roots_Refs_s0r, Bool.cond_decide]
      rw [if_neg (by omega), List.take_length]
  simp only [roots_Refs, roots_Refs_r, key, Option.bind_some]

/-! ### maps -/
def ks (m : List (Int × Bool × Unit)) : List Int := m.map fun p => p.1
/-- All that is in it is true. -/
def AllT (m : List (Int × Bool × Unit)) : Prop := ∀ p ∈ m, p.2.1 = true
theorem mget_mem {m : List (Int × Bool × Unit)} (h : AllT m) (k : Int) : mget false m k = decide (k ∈ ks m) := by
  induction m with
  | nil => rfl
  | cons p m ih =>
    simp only [mget, ks, List.map_cons, List.mem_cons]
    have ih := ih (fun q hq => h q (List.mem_cons_of_mem _ hq))
    cases e : p.1 == k with
    | true =>
      have e := beq_iff_eq.1 e
      have := h p List.mem_cons_self
      simp [this, e]
    | false =>
      have e : ¬ p.1 = k := by simpa using e
      have e' : ¬ k = p.1 := fun h => e h.symm
      show mget false m k = _
      rw [ih]
      exact decide_eq_decide.2 ⟨fun h => .inr h, fun h => h.resolve_left e'⟩
theorem mput_new {m : List (Int × Bool × Unit)} {k : Int} (h : k ∉ ks m) : mput m k true = m ++ [(k, true, ())] := by
  induction m with
  | nil => rfl
  | cons p m ih =>
    have h1 : ¬ p.1 = k := fun e => h (by rw [← e]; exact List.mem_cons_self)
    have h2 : k ∉ ks m := fun e => h (List.mem_cons_of_mem _ e)
    simp only [mput]
    have : (p.1 == k) = false := by simpa using h1
    rw [this]
    show p :: mput m k true = _
    rw [ih h2]
    rfl
theorem mput_old {m : List (Int × Bool × Unit)} (ht : AllT m) {k : Int} (h : k ∈ ks m) : mput m k true = m := by
  induction m with
  | nil => cases h
  | cons p m ih =>
    simp only [mput]
    cases e : p.1 == k with
    | true =>
      have e := beq_iff_eq.1 e
      have := ht p List.mem_cons_self
      show (k, true, ()) :: m = p :: m
      rw [← e, ← this]
    | false =>
      have e : ¬ p.1 = k := by simpa using e
      show p :: mput m k true = _
      have hm : k ∈ ks m := by
        rcases List.mem_cons.1 h with h | h
        · exact absurd h.symm e
        · exact h
      rw [ih (fun q hq => ht q (List.mem_cons_of_mem _ hq)) hm]

/-! ### sorted -/
theorem insI_mem {x y : Int} : ∀ {l : List Int}, y ∈ insI x l ↔ y = x ∨ y ∈ l
  | [] => by simp [insI]
  | z :: r => by
    simp only [insI]
    cases decide (x ≤ z) with
    | true => simp
    | false =>
      show y ∈ z :: insI x r ↔ _
      rw [List.mem_cons, insI_mem (l := r), List.mem_cons]
      constructor
      · rintro (h | h | h)
        · exact .inr (.inl h)
        · exact .inl h
        · exact .inr (.inr h)
      · rintro (h | h | h)
        · exact .inr (.inl h)
        · exact .inl h
        · exact .inr (.inr h)
theorem isort_mem {y : Int} : ∀ {l : List Int}, y ∈ isort l ↔ y ∈ l
  | [] => Iff.rfl
  | x :: r => by
    show y ∈ insI x (isort r) ↔ _
    rw [insI_mem, isort_mem (l := r), List.mem_cons]
theorem insI_lt {x : Int} : ∀ {l : List Int}, l.Pairwise (· < ·) → x ∉ l → (insI x l).Pairwise (· < ·)
  | [], _, _ => by simp [insI]
  | z :: r, h, hx => by
    obtain ⟨h1, h2⟩ := List.pairwise_cons.1 h
    have hz : ¬ x = z := fun e => hx (by rw [e]; exact List.mem_cons_self)
    simp only [insI]
    cases hd : decide (x ≤ z) with
    | true =>
      have hd := of_decide_eq_true hd
      refine List.pairwise_cons.2 ⟨fun w hw => ?_, h⟩
      rcases List.mem_cons.1 hw with rfl | hw
      · omega
      · have := h1 w hw; omega
    | false =>
      have hd := of_decide_eq_false hd
      refine List.pairwise_cons.2 ⟨fun w hw => ?_, insI_lt h2 (fun e => hx (List.mem_cons_of_mem _ e))⟩
      rcases insI_mem.1 hw with rfl | hw
      · omega
      · exact h1 w hw
theorem isort_lt : ∀ {l : List Int}, l.Nodup → (isort l).Pairwise (· < ·)
  | [], _ => List.Pairwise.nil
  | x :: r, h => by
    obtain ⟨h1, h2⟩ := List.nodup_cons.1 h
    exact insI_lt (isort_lt h2) (fun e => h1 (isort_mem.1 e))
theorem sorted_ext {l m : List Int} (hl : l.Pairwise (· < ·)) (hm : m.Pairwise (· < ·)) (h : ∀ x, x ∈ l ↔ x ∈ m) : l = m := by
  have dl : l.Nodup := hl.imp (fun h => by omega)
  have dm : m.Nodup := hm.imp (fun h => by omega)
  have hp : l.Perm m := (List.perm_ext_iff_of_nodup dl dm).2 h
  exact hp.eq_of_pairwise (le := fun a b => a < b) (fun a b _ _ h1 h2 => by omega) hl hm

/-! ### the program's way -/
structure RchI (h : Heap) (vs : List Val) (seen : List (Int × Bool × Unit)) (todo : List Int) : Prop where
  all : AllT seen
  nd : (ks seen).Nodup
  ok : ∀ a ∈ ks seen, Rch h vs a
  td : ∀ a ∈ todo, okA h a = true → Rch h vs a
  roots : ∀ a, okA h a = true → named vs a = true → a ∈ ks seen ∨ a ∈ todo
  cl : ∀ a ∈ ks seen, ∀ b ∈ refsO h a, okA h b = true → b ∈ ks seen ∨ b ∈ todo
theorem nodup_len {l : List Int} (hd : l.Nodup) {n : Nat} (h : ∀ a ∈ l, 0 ≤ a ∧ a < (n : Int)) : l.length ≤ n := by
  have hs : l ⊆ (List.range n).map fun (i : Nat) => (i : Int) := by
    intro a ha
    obtain ⟨h1, h2⟩ := h a ha
    refine List.mem_map.2 ⟨a.toNat, List.mem_range.2 (by omega), by omega⟩
  have := hd.length_le_of_subset hs
  simpa using this
theorem RchI.len {h : Heap} (f : FormP h) {vs : List Val} {seen : List (Int × Bool × Unit)} {todo : List Int} (q : RchI h vs seen todo) : seen.length ≤ 512 := by
  have hn := f.n16
  have : (ks seen).length ≤ 512 := nodup_len q.nd (fun a ha => by
    have := og_rng f (q.ok a ha).ok
    omega)
  simpa [ks] using this
theorem from_eq {h : Heap} (f : FormP h) {vs : List Val} (hv : vs.length ≤ 1000000) (hw : ∀ v : Val, v ∈ vs → -9223372036854775808 ≤ v.2.1 ∧ v.2.1 < 9223372036854775808) : reach_From (h, vs, ()) = some ((lst h).filter (rchB h vs), ()) := by
  have hn := f.n16
  have rf := fun {a : Int} (ho : okA h a = true) => og_rng f ho
  have key : ∃ l, reach_From_l0 (h, [], vrefs vs, ()) = some l ∧ ∃ seen, l = .out (seen, ()) ∧ RchI h vs seen [] := by
    unfold reach_From_l0
    refine iterL_rule (fun n x => ∃ (seen : List (Int × Bool × Unit)) (todo : List Int), x = (h, seen, todo, ()) ∧ RchI h vs seen todo ∧ n = (512 - seen.length) * 17 + todo.length ∧ todo.length ≤ 1000000 + 17 * seen.length ∧ ∀ a ∈ todo, -9223372036854775808 ≤ a ∧ a < 9223372036854775808) ?_ _ ((512 - 0) * 17 + (vrefs vs).length) _ (by have := vrefs_len vs; omega) ⟨[], vrefs vs, rfl, ⟨fun p hp => (by cases hp), List.nodup_nil, fun a ha => (by cases ha), fun a ha ho => .base ho (mem_vrefs.1 ha), fun a ho hn => .inr (mem_vrefs.2 hn), fun a ha => (by cases ha)⟩, rfl, by have := vrefs_len vs; simp; omega, fun a ha => ?_⟩
    rotate_left
    · unfold vrefs at ha
      obtain ⟨v, hv', rfl⟩ := List.mem_map.1 ha
      exact hw v (List.mem_filter.1 hv').1
    rintro n x ⟨seen, todo, rfl, q, rfl, htl, hrng⟩
    have hsl := q.len f
    simp only [reach_From_s0, reach_From_s0r, Bool.cond_decide]
    rcases List.eq_nil_or_concat todo with rfl | ⟨td, a, rfl⟩
    · rw [if_neg (by simp)]
      exact .inr ⟨_, rfl, seen, rfl, q⟩
    · have hla : (td.concat a).length = td.length + 1 := by simp
      have hwi : wi64 (((td.concat a).length : Int) - 1) = (td.length : Int) := by rw [wi64_id (by omega) (by omega)]; omega
      have hget : (td.concat a).getD td.length 0 = a := by simp [List.concat_eq_append]
      have htake : ((td.concat a).drop 0).take (td.length - 0) = td := by simp [List.concat_eq_append]
      have har := hrng a (by simp)
      have hsub : ∀ {b : Int}, b ∈ td → b ∈ td.concat a := fun hb => by simp [hb]
      have hmem : ∀ {b : Int}, b ∈ td.concat a → b = a ∨ b ∈ td := fun {b} hb => by
        rw [List.concat_eq_append, List.mem_append, List.mem_singleton] at hb
        exact hb.symm
      rw [hwi, Int.toNat_natCast, hget, htake]
      rw [if_pos (by omega), if_pos (by omega), if_pos (by omega), if_pos (by omega), if_pos (by omega), objGet_eq f har.1 har.2]
      simp only [Option.bind_some]
      cases ho : (og h a).2.1 with
      | false =>
        refine .inl ⟨(512 - seen.length) * 17 + td.length, _, by omega, rfl, seen, td, rfl, ⟨q.all, q.nd, q.ok, fun b hb => q.td b (hsub hb), fun b hb hn => ?_, fun c hc b hb hbo => ?_⟩, rfl, by omega, fun b hb => hrng b (hsub hb)⟩
        · rcases q.roots b hb hn with h1 | h1
          · exact .inl h1
          · rcases hmem h1 with rfl | h1
            · rw [show okA h b = (og h b).2.1 from rfl, ho] at hb; cases hb
            · exact .inr h1
        · rcases q.cl c hc b hb hbo with h1 | h1
          · exact .inl h1
          · rcases hmem h1 with rfl | h1
            · rw [show okA h b = (og h b).2.1 from rfl, ho] at hbo; cases hbo
            · exact .inr h1
      | true =>
        have hr : Rch h vs a := q.td a (by simp) ho
        rw [mget_mem q.all]
        simp only [Bool.not_true, cond_false, Bool.cond_decide]
        by_cases hs : a ∈ ks seen
        · rw [if_pos hs]
          refine .inl ⟨(512 - seen.length) * 17 + td.length, _, by omega, rfl, seen, td, rfl, ⟨q.all, q.nd, q.ok, fun b hb => q.td b (hsub hb), fun b hb hn => ?_, fun c hc b hb hbo => ?_⟩, rfl, by omega, fun b hb => hrng b (hsub hb)⟩
          · rcases q.roots b hb hn with h1 | h1
            · exact .inl h1
            · rcases hmem h1 with rfl | h1
              · exact .inl hs
              · exact .inr h1
          · rcases q.cl c hc b hb hbo with h1 | h1
            · exact .inl h1
            · rcases hmem h1 with rfl | h1
              · exact .inl hs
              · exact .inr h1
        · rw [if_neg hs, if_pos (by omega), objRefs_eq f ho]
          have hrl := refsO_len f ho
          have hr15 : (refsO h a).length ≤ 15 := by
            have h1 := rfN_len h a (cnt h a).toNat
            have h2 := (og_rng f ho).2.2.2.2
            unfold refsO cnt at *
            omega
          simp only [Option.bind_some]
          rw [if_pos (by omega), mput_new hs]
          have hks : ks (seen ++ [(a, true, ())]) = ks seen ++ [a] := by simp [ks]
          have q2 : RchI h vs (seen ++ [(a, true, ())]) (td ++ refsO h a) := by
            refine ⟨fun p hp => ?_, ?_, fun b hb => ?_, fun b hb hbo => ?_, fun b hb hn => ?_, fun c hc b hb hbo => ?_⟩
            · rcases List.mem_append.1 hp with hp | hp
              · exact q.all p hp
              · rw [List.mem_singleton] at hp; rw [hp]
            · rw [hks]
              exact List.nodup_append.2 ⟨q.nd, by simp, fun x hx y hy => by rw [List.mem_singleton] at hy; rintro rfl; rw [hy] at hx; exact hs hx⟩
            · rw [hks] at hb
              rcases List.mem_append.1 hb with hb | hb
              · exact q.ok b hb
              · rw [List.mem_singleton] at hb; rw [hb]; exact hr
            · rcases List.mem_append.1 hb with hb | hb
              · exact q.td b (hsub hb) hbo
              · exact .step hr hb hbo
            · rw [hks]
              rcases q.roots b hb hn with h1 | h1
              · exact .inl (List.mem_append_left _ h1)
              · rcases hmem h1 with rfl | h1
                · exact .inl (by simp)
                · exact .inr (List.mem_append_left _ h1)
            · rw [hks] at hc ⊢
              rcases List.mem_append.1 hc with hc | hc
              · rcases q.cl c hc b hb hbo with h1 | h1
                · exact .inl (List.mem_append_left _ h1)
                · rcases hmem h1 with rfl | h1
                  · exact .inl (by simp)
                  · exact .inr (List.mem_append_left _ h1)
              · rw [List.mem_singleton] at hc
                rw [hc] at hb
                exact .inr (List.mem_append_right _ hb)
          have hl2 := q2.len f
          rw [List.length_append, List.length_singleton] at hl2
          refine .inl ⟨(512 - (seen ++ [(a, true, ())]).length) * 17 + (td ++ refsO h a).length, _, ?_, rfl, _, _, rfl, q2, rfl, ?_, fun b hb => ?_⟩
          · simp only [List.length_append, List.length_singleton]; omega
          · simp only [List.length_append, List.length_singleton]; omega
          · rcases List.mem_append.1 hb with hb | hb
            · exact hrng b (hsub hb)
            · unfold refsO rfN at hb
              obtain ⟨v, hv2, rfl⟩ := List.mem_map.1 hb
              obtain ⟨j, _, rfl⟩ := List.mem_map.1 (List.mem_filter.1 hv2).1
              exact rg_rng _
  obtain ⟨l, e, seen, rfl, q⟩ := key
  have hsl := q.len f
  simp only [reach_From, reach_From_r, refs14_eq hv, Option.bind_some, e, Bool.cond_decide]
  have hall : (seen.all fun p => inI64 p.1) = true := by
    rw [List.all_eq_true]
    intro p hp
    have := rf (q.ok p.1 (List.mem_map.2 ⟨p, hp, rfl⟩)).ok
    simp only [inI64, Bool.and_eq_true, decide_eq_true_eq]
    omega
  rw [hall]
  simp only [cond_true]
  rw [if_pos (by omega)]
  have : isort (ks seen) = (lst h).filter (rchB h vs) := by
    refine sorted_ext (isort_lt q.nd) (List.Pairwise.filter _ (lst_sorted h)) (fun x => ?_)
    rw [isort_mem, List.mem_filter, mem_lst f, rchB_iff]
    constructor
    · intro hx
      exact ⟨(q.ok x hx).ok, q.ok x hx⟩
    · rintro ⟨-, hx⟩
      induction hx with
      | base ho hn => exact (q.roots _ ho hn).elim id (fun h => by cases h)
      | step _ hb ho ih => exact (q.cl _ ih _ hb ho).elim id (fun h => by cases h)
  rw [show (seen.map fun p => p.1) = ks seen from rfl, this]
/-! ### how many words -/
def wsum (h : Heap) (l : List Int) : Int := (l.map fun a => cw (og h a).1.2.2.1).sum
theorem wsum_nn (h : Heap) : ∀ l, 0 ≤ wsum h l
  | [] => Int.le_refl _
  | a :: l => by
    have := wsum_nn h l
    have := (cw_le (og h a).1.2.2.1).1
    show 0 ≤ cw (og h a).1.2.2.1 + wsum h l
    omega
theorem wsum_le (h : Heap) : ∀ l : List Int, wsum h l ≤ 16 * (l.length : Int)
  | [] => Int.le_refl _
  | a :: l => by
    have := wsum_le h l
    have := (cw_le (og h a).1.2.2.1).2
    show cw (og h a).1.2.2.1 + wsum h l ≤ _
    rw [List.length_cons]
    omega
theorem wsum_app (h : Heap) (l m : List Int) : wsum h (l ++ m) = wsum h l + wsum h m := by
  unfold wsum
  rw [List.map_append, List.sum_append]
theorem wsum_filter (h : Heap) {p q : Int → Bool} (hpq : ∀ a, p a = true → q a = true) : ∀ l : List Int, wsum h (l.filter p) ≤ wsum h (l.filter q)
  | [] => Int.le_refl _
  | a :: l => by
    have ih := wsum_filter h hpq l
    have hc := (cw_le (og h a).1.2.2.1).1
    cases hp : p a with
    | true =>
      rw [List.filter_cons_of_pos hp, List.filter_cons_of_pos (hpq a hp)]
      show cw (og h a).1.2.2.1 + wsum h _ ≤ cw (og h a).1.2.2.1 + wsum h _
      omega
    | false =>
      rw [List.filter_cons_of_neg (by simp [hp])]
      cases hq : q a with
      | true =>
        rw [List.filter_cons_of_pos hq]
        show _ ≤ cw (og h a).1.2.2.1 + wsum h _
        omega
      | false => rw [List.filter_cons_of_neg (by simp [hq])]; exact ih
theorem words15_eq {h : Heap} (f : FormP h) {l : List Int} (hd : l.Nodup) (ho : ∀ a ∈ l, okA h a = true) : reach_Words (h, l, ()) = some (wsum h l, ()) := by
  have hn := f.n16
  have rf := fun {a : Int} (ho : okA h a = true) => og_rng f ho
  have hl : l.length ≤ 512 := nodup_len hd (fun a ha => by
    have := rf (ho a ha)
    omega)
  have key : ∃ r, reach_Words_l0 (0, l, (l.length : Int), 0, h, [], ()) = some r ∧ r = .out (wsum h l, ()) := by
    unfold reach_Words_l0
    refine iterL_rule (fun n x => ∃ (i : Nat) (m : List (Int × Bool × Unit)), i ≤ l.length ∧ n = l.length - i ∧ x = (wsum h (l.take i), l, (l.length : Int), (i : Int), h, m, ()) ∧ ks m = l.take i ∧ AllT m) ?_ _ l.length _ (by omega) ⟨0, [], by omega, rfl, rfl, rfl, fun p hp => (by cases hp)⟩
    rintro n x ⟨i, m, i1, rfl, rfl, hk, ht⟩
    have hml : m.length ≤ 512 := by
      have := congrArg List.length hk
      simp only [ks, List.length_map, List.length_take] at this
      omega
    simp only [reach_Words_s0, reach_Words_s0r, Bool.cond_decide]
    by_cases hi : i < l.length
    · have hm := List.getElem_mem hi
      have hoi := ho _ hm
      have hr := rf hoi
      have hni : l[i] ∉ ks m := by
        rw [hk]
        intro hc
        obtain ⟨j, hj, e⟩ := List.getElem_of_mem hc
        rw [List.length_take] at hj
        rw [List.getElem_take] at e
        have := (List.getElem_inj hd).1 e
        omega
      have h1 := wsum_nn h (l.take i)
      have h2 := wsum_le h (l.take i)
      rw [List.length_take] at h2
      have h3 := cw_le (og h l[i]).1.2.2.1
      have h4 : wsum h (l.take (i + 1)) = wsum h (l.take i) + cw (og h l[i]).1.2.2.1 := by
        rw [← List.take_append_getElem hi, wsum_app]
        simp [wsum]
      rw [if_pos (by omega), if_pos (by omega), if_pos (by omega), Int.toNat_natCast, get_d _ _ _ hi, objGet_eq f (by omega) (by omega)]
      simp only [Option.bind_some, show (og h l[i]).2.1 = true from hoi, cond_true, mget_mem ht, class_Words_eq, hni, decide_false, Bool.not_false]
      rw [if_pos (by omega), wi64_id (n := (i : Int) + 1) (by omega) (by omega), wi64_id (by omega) (by omega), ← h4, mput_new hni]
      refine .inl ⟨l.length - (i + 1), _, by omega, rfl, i + 1, _, by omega, rfl, rfl, ?_, fun p hp => ?_⟩
      · rw [← List.take_append_getElem hi, ← hk]
        simp [ks]
      · rcases List.mem_append.1 hp with hp | hp
        · exact ht p hp
        · rw [List.mem_singleton] at hp; rw [hp]
    · rw [if_neg (by omega)]
      refine .inr ⟨_, rfl, ?_⟩
      rw [List.take_of_length_le (by omega)]
  obtain ⟨r, e, rfl⟩ := key
  simp only [reach_Words, reach_Words_r, e, Option.bind_some]
theorem rch_nodup (h : Heap) (p : Int → Bool) : ((lst h).filter p).Nodup := (List.Pairwise.filter _ (lst_sorted h)).imp (fun h => by omega)
end Go.Proofs.YtdiogegolnoeoaaDoor.Den
