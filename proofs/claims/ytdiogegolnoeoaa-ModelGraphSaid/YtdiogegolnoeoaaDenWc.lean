/- Pure laws: what is reached in a model; what is kept. -/
import Derived.Test.YtdiogegolnoeoaaDenWb
namespace Go.Proofs.Ytdiogegolnoeoaa.Den
open Go
set_option linter.unusedVariables false
set_option linter.unusedSimpArgs false
set_option maxRecDepth 100000

def nameM (vs : List Val) (a : Int) : Bool := vs.any fun v => decide (v.1 = 2) && decide (v.2.1 = a)
theorem nameM_app (a b : List Val) (p : Int) : nameM (a ++ b) p = (nameM a p || nameM b p) := by
  unfold nameM
  rw [List.any_append]
theorem nameM_one (v : Val) (p : Int) : nameM [v] p = (decide (v.1 = 2) && decide (v.2.1 = p)) := by
  simp [nameM]
/-- The fields of a thing. -/
def flds (m : Model) (a : Int) : List Val := (gtV m a).1.2.1
/-- Is there such a thing? -/
def hasT (m : Model) (a : Int) : Bool := (gtV m a).2.1
inductive RchT (m : Model) (vs : List Val) : Int → Prop
  | base {a : Int} : hasT m a = true → nameM vs a = true → RchT m vs a
  | step {a b : Int} : RchT m vs a → nameM (flds m a) b = true → hasT m b = true → RchT m vs b
theorem RchT.has {m : Model} {vs : List Val} {a : Int} (r : RchT m vs a) : hasT m a = true := by
  cases r with
  | base h _ => exact h
  | step _ _ h => exact h
noncomputable def rchT (m : Model) (vs : List Val) (a : Int) : Bool := @decide (RchT m vs a) (Classical.propDecidable _)
theorem rchT_iff {m : Model} {vs : List Val} {a : Int} : rchT m vs a = true ↔ RchT m vs a := by
  unfold rchT
  exact @decide_eq_true_iff _ (Classical.propDecidable _)
def idsM (m : Model) : List Int := m.2.1.map fun t => t.1
theorem hasT_iff {m : Model} {a : Int} : hasT m a = true ↔ a ∈ idsM m := by
  unfold hasT gtV idsM
  cases hf : fi m a with
  | some k =>
    obtain ⟨h1, h2⟩ := fi_some hf
    simp only [true_iff]
    rw [List.mem_map]
    exact ⟨m.2.1[k], List.getElem_mem h1, by rw [← get_d m.2.1 k zt h1]; exact h2⟩
  | none =>
    have hn := fi_none hf
    simp only [Bool.false_eq_true, false_iff]
    intro hm
    obtain ⟨t, ht, e⟩ := List.mem_map.1 hm
    obtain ⟨k, hk, rfl⟩ := List.getElem_of_mem ht
    apply hn k hk
    rw [get_d m.2.1 k zt hk]; exact e
theorem ids_sorted {m : Model} (r : RM m) : (idsM m).Pairwise (· < ·) := by
  unfold idsM
  rw [List.pairwise_map, List.pairwise_iff_getElem]
  intro i j hi hj hij
  have := r.up i j hij hj
  rw [get_d m.2.1 i zt hi, get_d m.2.1 j zt hj] at this
  exact this
theorem flds_at {m : Model} (r : RM m) {i : Nat} (hi : i < m.2.1.length) : flds m (m.2.1.getD i zt).1 = (m.2.1.getD i zt).2.1 ∧ fi m (m.2.1.getD i zt).1 = some i := by
  have h : fi m (m.2.1.getD i zt).1 = some i := by
    cases hf : fi m (m.2.1.getD i zt).1 with
    | none => exact absurd rfl (fi_none hf i hi)
    | some k =>
      obtain ⟨h1, h2⟩ := fi_some hf
      rw [r.one h1 hi h2]
  exact ⟨by unfold flds gtV; rw [h], h⟩

/-! ### maps, sorted -/
def ksM (m : List (Int × Bool × Unit)) : List Int := m.map fun p => p.1
def AllM (m : List (Int × Bool × Unit)) : Prop := ∀ p ∈ m, p.2.1 = true
theorem mgetM {m : List (Int × Bool × Unit)} (h : AllM m) (k : Int) : mget false m k = decide (k ∈ ksM m) := by
  induction m with
  | nil => rfl
  | cons p m ih =>
    simp only [mget, ksM, List.map_cons, List.mem_cons]
    have ih := ih (fun q hq => h q (List.mem_cons_of_mem _ hq))
    cases e : p.1 == k with
    | true =>
      have e := beq_iff_eq.1 e
      have := h p List.mem_cons_self
      simp [this, e]
    | false =>
      have e : ¬ p.1 = k := by simpa using e
      have e' : ¬ k = p.1 := fun h => e h.symm
      show mget false m k = _
      rw [ih]
      exact decide_eq_decide.2 ⟨fun h => .inr h, fun h => h.resolve_left e'⟩
theorem mputM {m : List (Int × Bool × Unit)} {k : Int} (h : k ∉ ksM m) : mput m k true = m ++ [(k, true, ())] := by
  induction m with
  | nil => rfl
  | cons p m ih =>
    have h1 : ¬ p.1 = k := fun e => h (by rw [← e]; exact List.mem_cons_self)
    have h2 : k ∉ ksM m := fun e => h (List.mem_cons_of_mem _ e)
    simp only [mput]
    have : (p.1 == k) = false := by simpa using h1
    rw [this]
    show p :: mput m k true = _
    rw [ih h2]
    rfl
theorem insM_mem {x y : Int} : ∀ {l : List Int}, y ∈ insI x l ↔ y = x ∨ y ∈ l
  | [] => by simp [insI]
  | z :: r => by
    simp only [insI]
    cases decide (x ≤ z) with
    | true => simp
    | false =>
      show y ∈ z :: insI x r ↔ _
      rw [List.mem_cons, insM_mem (l := r), List.mem_cons]
      constructor
      · rintro (h | h | h)
        · exact .inr (.inl h)
        · exact .inl h
        · exact .inr (.inr h)
      · rintro (h | h | h)
        · exact .inr (.inl h)
        · exact .inl h
        · exact .inr (.inr h)
theorem isortM_mem {y : Int} : ∀ {l : List Int}, y ∈ isort l ↔ y ∈ l
  | [] => Iff.rfl
  | x :: r => by
    show y ∈ insI x (isort r) ↔ _
    rw [insM_mem, isortM_mem (l := r), List.mem_cons]
theorem insM_lt {x : Int} : ∀ {l : List Int}, l.Pairwise (· < ·) → x ∉ l → (insI x l).Pairwise (· < ·)
  | [], _, _ => by simp [insI]
  | z :: r, h, hx => by
    obtain ⟨h1, h2⟩ := List.pairwise_cons.1 h
    have hz : ¬ x = z := fun e => hx (by rw [e]; exact List.mem_cons_self)
    simp only [insI]
    cases hd : decide (x ≤ z) with
    | true =>
      have hd := of_decide_eq_true hd
      refine List.pairwise_cons.2 ⟨fun w hw => ?_, h⟩
      rcases List.mem_cons.1 hw with rfl | hw
      · omega
      · have := h1 w hw; omega
    | false =>
      have hd := of_decide_eq_false hd
      refine List.pairwise_cons.2 ⟨fun w hw => ?_, insM_lt h2 (fun e => hx (List.mem_cons_of_mem _ e))⟩
      rcases insM_mem.1 hw with rfl | hw
      · omega
      · exact h1 w hw
theorem isortM_lt : ∀ {l : List Int}, l.Nodup → (isort l).Pairwise (· < ·)
  | [], _ => List.Pairwise.nil
  | x :: r, h => by
    obtain ⟨h1, h2⟩ := List.nodup_cons.1 h
    exact insM_lt (isortM_lt h2) (fun e => h1 (isortM_mem.1 e))
theorem sortedM {l m : List Int} (hl : l.Pairwise (· < ·)) (hm : m.Pairwise (· < ·)) (h : ∀ x, x ∈ l ↔ x ∈ m) : l = m := by
  have dl : l.Nodup := hl.imp (fun h => by omega)
  have dm : m.Nodup := hm.imp (fun h => by omega)
  have hp : l.Perm m := (List.perm_ext_iff_of_nodup dl dm).2 h
  exact hp.eq_of_pairwise (le := fun a b => a < b) (fun a b _ _ h1 h2 => by omega) hl hm

/-! ### reached, by the program -/
structure RcI (m : Model) (vs : List Val) (seen : List (Int × Bool × Unit)) (todo : List Val) : Prop where
  all : AllM seen
  nd : (ksM seen).Nodup
  ok : ∀ a ∈ ksM seen, RchT m vs a
  td : ∀ a, nameM todo a = true → hasT m a = true → RchT m vs a
  roots : ∀ a, hasT m a = true → nameM vs a = true → a ∈ ksM seen ∨ nameM todo a = true
  cl : ∀ a ∈ ksM seen, ∀ b, nameM (flds m a) b = true → hasT m b = true → b ∈ ksM seen ∨ nameM todo b = true
theorem RcI.len {m : Model} {vs : List Val} {seen : List (Int × Bool × Unit)} {todo : List Val} (q : RcI m vs seen todo) : seen.length ≤ m.2.1.length := by
  have hs : ksM seen ⊆ idsM m := fun a ha => hasT_iff.1 (q.ok a ha).has
  have := q.nd.length_le_of_subset hs
  simpa [ksM, idsM] using this
theorem reach_eqM {m : Model} (r : RM m) (q : LM m) (hf : ∀ i, i < m.2.1.length → (m.2.1.getD i zt).2.1.length ≤ 15) (hi : ∀ a ∈ idsM m, inI64 a = true) {vs : List Val} (hv : vs.length ≤ 1000) :
    model_Reach (m, vs, ()) = some ((idsM m).filter (rchT m vs), ()) := by
  have hts := q.ts
  have hfl : ∀ a, (flds m a).length ≤ 15 := fun a => by
    unfold flds gtV
    cases hk : fi m a with
    | some k => exact hf k (fi_some hk).1
    | none => simp
  have key : ∃ l, model_Reach_l0 (m, [], vs, ()) = some l ∧ ∃ seen, l = .out (seen, ()) ∧ RcI m vs seen [] := by
    unfold model_Reach_l0
    refine iterL_rule (fun n x => ∃ (seen : List (Int × Bool × Unit)) (todo : List Val), x = (m, seen, todo, ()) ∧ RcI m vs seen todo ∧ n = (m.2.1.length - seen.length) * 17 + todo.length ∧ todo.length ≤ 1000 + 17 * seen.length) ?_ _ ((m.2.1.length - 0) * 17 + vs.length) _ (by omega) ⟨[], vs, rfl, ⟨fun p hp => (by cases hp), List.nodup_nil, fun a ha => (by cases ha), fun a ha ho => .base ho ha, fun a ho hn => .inr hn, fun a ha => (by cases ha)⟩, rfl, by simp; omega⟩
    rintro n x ⟨seen, todo, rfl, p, rfl, htl⟩
    have hsl := p.len
    simp only [model_Reach_s0, model_Reach_s0r, Bool.cond_decide]
    rcases List.eq_nil_or_concat todo with rfl | ⟨td, v, rfl⟩
    · rw [if_neg (by simp)]
      exact .inr ⟨_, rfl, seen, rfl, p⟩
    · have hla : (td.concat v).length = td.length + 1 := by simp
      have hwi : wi64 (((td.concat v).length : Int) - 1) = (td.length : Int) := by rw [wi64_id (by omega) (by omega)]; omega
      have hget : (td.concat v).getD td.length (0, 0, ()) = v := by simp [List.concat_eq_append]
      have htake : ((td.concat v).drop 0).take (td.length - 0) = td := by simp [List.concat_eq_append]
      have hname : ∀ b, nameM (td.concat v) b = (nameM td b || (decide (v.1 = 2) && decide (v.2.1 = b))) := fun b => by
        rw [List.concat_eq_append, nameM_app, nameM_one]
      rw [hwi, Int.toNat_natCast, hget, htake]
      rw [if_pos (by omega), if_pos (by omega), if_pos (by omega), if_pos (by omega), if_pos (by omega), get_eqM r (by omega)]
      simp only [Option.bind_some, ibne, Bool.cond_decide]
      -- the value names nothing new
      have skip : (∀ b, (decide (v.1 = 2) && decide (v.2.1 = b)) = true → hasT m b = true → b ∈ ksM seen) → ∃ m_1 y, m_1 < (m.2.1.length - seen.length) * 17 + (td.concat v).length ∧ (some (SRes.next (m, seen, td, ())) : Option (SRes (.cons cModel (.cons (.sl (.cons cI (.cons .bool .nil))) (.cons (.sl cVal) .nil))) (.cons (.sl (.cons cI (.cons .bool .nil))) .nil) .nil)) = some (.next y) ∧ ∃ (seen : List (Int × Bool × Unit)) (todo : List Val), y = (m, seen, todo, ()) ∧ RcI m vs seen todo ∧ m_1 = (m.2.1.length - seen.length) * 17 + todo.length ∧ todo.length ≤ 1000 + 17 * seen.length := by
        intro hb
        refine ⟨(m.2.1.length - seen.length) * 17 + td.length, _, by omega, rfl, seen, td, rfl, ⟨p.all, p.nd, p.ok, fun b hb1 => p.td b (by rw [hname, hb1]; rfl), fun b hb1 hn => ?_, fun c hc b hb1 hbo => ?_⟩, rfl, by omega⟩
        · rcases p.roots b hb1 hn with h1 | h1
          · exact .inl h1
          · rw [hname, Bool.or_eq_true] at h1
            exact h1.elim .inr fun h1 => .inl (hb b h1 hb1)
        · rcases p.cl c hc b hb1 hbo with h1 | h1
          · exact .inl h1
          · rw [hname, Bool.or_eq_true] at h1
            exact h1.elim .inr fun h1 => .inl (hb b h1 hbo)
      by_cases c1 : v.1 = 2
      rotate_left
      · rw [if_pos c1]
        refine .inl (skip fun b hb _ => ?_)
        rw [decide_eq_false c1] at hb
        cases hb
      rw [if_neg (show ¬ ¬ v.1 = 2 from fun h => h c1)]
      cases c2 : (gtV m v.2.1).2.1 with
      | false =>
        refine .inl (skip fun b hb hh => ?_)
        rw [Bool.and_eq_true] at hb
        have e := of_decide_eq_true hb.2
        rw [← e] at hh
        unfold hasT at hh
        rw [c2] at hh
        cases hh
      | true =>
        have hr : RchT m vs v.2.1 := p.td v.2.1 (by rw [hname, decide_eq_true c1, decide_eq_true rfl, Bool.and_self, Bool.or_true]) c2
        rw [mgetM p.all]
        simp only [Bool.not_true, cond_false, Bool.cond_decide]
        by_cases hs : v.2.1 ∈ ksM seen
        · rw [if_pos hs]
          refine .inl (skip fun b hb _ => ?_)
          rw [Bool.and_eq_true] at hb
          rw [← of_decide_eq_true hb.2]
          exact hs
        · have h15 := hfl v.2.1
          have h15' : (gtV m v.2.1).1.2.1.length ≤ 15 := h15
          rw [if_neg hs, if_pos (by omega), if_pos (by omega), mputM hs]
          have hks : ksM (seen ++ [(v.2.1, true, ())]) = ksM seen ++ [v.2.1] := by simp [ksM]
          have q2 : RcI m vs (seen ++ [(v.2.1, true, ())]) (td ++ flds m v.2.1) := by
            refine ⟨fun p' hp => ?_, ?_, fun b hb => ?_, fun b hb hbo => ?_, fun b hb hn => ?_, fun c hc b hb hbo => ?_⟩
            · rcases List.mem_append.1 hp with hp | hp
              · exact p.all p' hp
              · rw [List.mem_singleton] at hp; rw [hp]
            · rw [hks]
              exact List.nodup_append.2 ⟨p.nd, by simp, fun x hx y hy => by rw [List.mem_singleton] at hy; rintro rfl; rw [hy] at hx; exact hs hx⟩
            · rw [hks] at hb
              rcases List.mem_append.1 hb with hb | hb
              · exact p.ok b hb
              · rw [List.mem_singleton] at hb; rw [hb]; exact hr
            · rw [nameM_app, Bool.or_eq_true] at hb
              rcases hb with hb | hb
              · exact p.td b (by rw [hname, hb]; rfl) hbo
              · exact .step hr hb hbo
            · rw [hks, nameM_app]
              rcases p.roots b hb hn with h1 | h1
              · exact .inl (List.mem_append_left _ h1)
              · rw [hname, Bool.or_eq_true] at h1
                rcases h1 with h1 | h1
                · rw [h1]; exact .inr rfl
                · rw [Bool.and_eq_true] at h1
                  rw [← of_decide_eq_true h1.2]
                  exact .inl (by simp)
            · rw [hks] at hc ⊢
              rw [nameM_app]
              rcases List.mem_append.1 hc with hc | hc
              · rcases p.cl c hc b hb hbo with h1 | h1
                · exact .inl (List.mem_append_left _ h1)
                · rw [hname, Bool.or_eq_true] at h1
                  rcases h1 with h1 | h1
                  · rw [h1]; exact .inr rfl
                  · rw [Bool.and_eq_true] at h1
                    rw [← of_decide_eq_true h1.2]
                    exact .inl (by simp)
              · rw [List.mem_singleton] at hc
                rw [hc] at hb
                rw [hb, Bool.or_true]
                exact .inr rfl
          have hl2 := q2.len
          rw [List.length_append, List.length_singleton] at hl2
          refine .inl ⟨(m.2.1.length - (seen ++ [(v.2.1, true, ())]).length) * 17 + (td ++ flds m v.2.1).length, _, ?_, rfl, _, _, rfl, q2, rfl, ?_⟩
          · rw [List.length_append, List.length_append, List.length_singleton]; omega
          · rw [List.length_append, List.length_append, List.length_singleton]; omega
  obtain ⟨l, e, seen, rfl, p⟩ := key
  have hsl := p.len
  simp only [model_Reach, model_Reach_r, cloneV_w (show vs.length ≤ 1000000 by omega), e, Option.bind_some]
  have hall : (seen.all fun p => inI64 p.1) = true := by
    rw [List.all_eq_true]
    intro x hx
    exact hi _ (hasT_iff.1 (p.ok x.1 (List.mem_map.2 ⟨x, hx, rfl⟩)).has)
  rw [hall]
  simp only [cond_true, Bool.cond_decide]
  rw [if_pos (by omega)]
  have comp : ∀ a, RchT m vs a → a ∈ ksM seen := by
    intro a ra
    induction ra with
    | base h1 h2 => exact (p.roots _ h1 h2).resolve_right (by simp [nameM])
    | step _ h1 h2 ih => exact (p.cl _ ih _ h1 h2).resolve_right (by simp [nameM])
  have : isort (seen.map fun p => p.1) = (idsM m).filter (rchT m vs) := by
    refine sortedM (isortM_lt p.nd) (List.Pairwise.filter _ (ids_sorted r)) fun x => ?_
    rw [isortM_mem, List.mem_filter, rchT_iff]
    exact ⟨fun hx => ⟨hasT_iff.1 (p.ok x hx).has, p.ok x hx⟩, fun hx => comp x hx.2⟩
  rw [this]
end Go.Proofs.Ytdiogegolnoeoaa.Den
