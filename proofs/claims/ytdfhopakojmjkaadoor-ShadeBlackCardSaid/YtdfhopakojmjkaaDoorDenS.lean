/- The loop's head and end; the walk of code; functions, whole. -/
import Derived.Test.YtdfhopakojmjkaaDoorDenZ
namespace Go.Proofs.YtdfhopakojmjkaaDoor.Den
open Go Go.RowKit
set_option linter.unusedVariables false
set_option linter.unusedSectionVars false

theorem assoc_mem : ∀ {l : List (Nat × Nat)} {k k' : Nat}, assoc l k = some k' → (k, k') ∈ l
  | [], k, k', h => by simp [assoc] at h
  | (a, b) :: l, k, k', h => by
    simp only [assoc] at h
    cases e : Nat.beq a k with
    | true =>
      rw [e] at h
      have := nat_beq e
      subst this
      injection h with h
      subst h
      simp
    | false =>
      rw [e] at h
      exact List.mem_cons_of_mem _ (assoc_mem h)
theorem tabV_mem : ∀ {l : List (Nat × Option V)} {k : Nat} {v : V}, tabV l k = some v → (k, some v) ∈ l
  | [], k, v, h => by simp [tabV] at h
  | (a, b) :: l, k, v, h => by
    simp only [tabV] at h
    cases e : Nat.beq k a with
    | true =>
      rw [e] at h
      have := nat_beq e
      subst this
      have h : b = some v := h
      subst h
      simp
    | false =>
      rw [e] at h
      exact List.mem_cons_of_mem _ (tabV_mem h)
theorem tabR_mem : ∀ {l : List (Nat × Option Row)} {k : Nat} {v : Row}, tabR l k = some v → (k, some v) ∈ l
  | [], k, v, h => by simp [tabR] at h
  | (a, b) :: l, k, v, h => by
    simp only [tabR] at h
    cases e : Nat.beq k a with
    | true =>
      rw [e] at h
      have := nat_beq e
      subst this
      have h : b = some v := h
      subst h
      simp
    | false =>
      rw [e] at h
      exact List.mem_cons_of_mem _ (tabR_mem h)
theorem tabT_get (f : Nat → V) : ∀ (l : List Nat) (i : Nat), tabT (l.map fun i => (i, f i)) i = .undef ∨ tabT (l.map fun i => (i, f i)) i = f i
  | [], i => .inl rfl
  | a :: l, i => by
    simp only [List.map_cons, tabT]
    cases e : Nat.beq i a with
    | true =>
      have := nat_beq e
      subst this
      exact .inr rfl
    | false => exact tabT_get f l i
theorem number_mem : ∀ {ks : List Nat} {m k n : Nat}, (k, n) ∈ number ks m → ∃ j, ks[j]? = some k ∧ n = m + j
  | [], m, k, n, h => by simp [number] at h
  | a :: ks, m, k, n, h => by
    simp only [number, List.mem_cons] at h
    rcases h with h | h
    · injection h with h1 h2
      subst h1 h2
      exact ⟨0, rfl, rfl⟩
    · obtain ⟨j, h1, h2⟩ := number_mem h
      exact ⟨j + 1, by simpa using h1, by omega⟩

theorem turn_of {s : S4} {sub : Sub} {base : Nat} {a : Canon} {ks vs : List Nat} (hk : ks.Nodup) (hv : vs.Nodup)
    (hkv : ∀ k ∈ a.keepV, k < a.n0 ∧ k ∉ vs) (hkr : ∀ k ∈ a.keepR, k < a.n0 ∧ k ∉ ks)
    (hsv : sub.var = a.keepV.map (fun k => (k, k)) ++ number vs (a.n0 + ks.length)) (hsr : sub.row = a.keepR.map (fun k => (k, k)) ++ number ks a.n0) {H2 : HF}
    (hV : H2.var = tabV (a.keepV.map (fun k => (k, normO sub (s.H.var k))) ++ (number vs (a.n0 + ks.length)).map fun x => (x.2, normO sub (s.H.var x.1))))
    (hR : H2.row = tabR (a.keepR.map (fun k => (k, s.H.row k)) ++ (number ks a.n0).map fun x => (x.2, s.H.row x.1)))
    (hN : H2.nx = a.n0 + ks.length + vs.length) :
    Turn s sub H2 (fun k => if k < a.n0 then k else vs.getD (k - (a.n0 + ks.length)) 0) (fun k => if k < a.n0 then k else ks.getD (k - a.n0) 0) (fun k => (k < a.n0 ∧ s.U k) ∨ (a.n0 ≤ k ∧ k < a.n0 + ks.length + vs.length)) := by
  have new : ∀ {l : List Nat} {j k : Nat}, l[j]? = some k → j < l.length ∧ l.getD j 0 = k := by
    intro l j k h
    exact ⟨(List.getElem?_eq_some_iff.1 h).1, by rw [List.getD_eq_getElem?_getD, h]; rfl⟩
  have row2 : ∀ k' r, H2.row k' = some r → (k' < a.n0 ∧ k' ∈ a.keepR ∧ s.H.row k' = some r) ∨ ∃ j k, ks[j]? = some k ∧ k' = a.n0 + j ∧ s.H.row k = some r := by
    intro k' r hr
    rw [hR] at hr
    rcases List.mem_append.1 (tabR_mem hr) with h | h
    · obtain ⟨k, h1, h2⟩ := List.mem_map.1 h
      injection h2 with h2 h3
      subst h2
      exact .inl ⟨(hkr k h1).1, h1, h3⟩
    · obtain ⟨⟨k, n⟩, h1, h2⟩ := List.mem_map.1 h
      injection h2 with h2 h3
      obtain ⟨j, g1, g2⟩ := number_mem h1
      exact .inr ⟨j, k, g1, by simp only at h2; omega, h3⟩
  have var2 : ∀ k' c', H2.var k' = some c' → ∃ c, c' = c.norm sub ∧ ((k' < a.n0 ∧ k' ∈ a.keepV ∧ s.H.var k' = some c) ∨ ∃ j k, vs[j]? = some k ∧ k' = a.n0 + ks.length + j ∧ s.H.var k = some c) := by
    intro k' c' hc
    have un : ∀ {o : Option V}, normO sub o = some c' → ∃ c, c' = c.norm sub ∧ o = some c := by
      intro o ho
      cases o with
      | none => cases ho
      | some c => injection ho with ho; exact ⟨c, ho.symm, rfl⟩
    rw [hV] at hc
    rcases List.mem_append.1 (tabV_mem hc) with h | h
    · obtain ⟨k, h1, h2⟩ := List.mem_map.1 h
      injection h2 with h2 h3
      subst h2
      obtain ⟨c, e1, e2⟩ := un h3
      exact ⟨c, e1, .inl ⟨(hkv k h1).1, h1, e2⟩⟩
    · obtain ⟨⟨k, n⟩, h1, h2⟩ := List.mem_map.1 h
      injection h2 with h2 h3
      obtain ⟨j, g1, g2⟩ := number_mem h1
      obtain ⟨c, e1, e2⟩ := un h3
      exact ⟨c, e1, .inr ⟨j, k, g1, by simp only at h2; omega, e2⟩⟩
  refine ⟨fun k k' h => ?_, fun k k' h => ?_, fun k' r h => ?_, fun k' c' h => ?_, fun k l r r' h1 h2 hne => ?_, fun k l c c' h1 h2 hne => ?_, ?_⟩
  · rw [hsr] at h
    rcases List.mem_append.1 (assoc_mem h) with h | h
    · obtain ⟨q, h1, h2⟩ := List.mem_map.1 h
      injection h2 with h2 h3
      subst h2 h3
      have := (hkr _ h1).1
      exact ⟨if_pos this, fun hu => .inl ⟨this, hu⟩⟩
    · obtain ⟨j, g1, rfl⟩ := number_mem h
      obtain ⟨n1, n2⟩ := new g1
      refine ⟨?_, fun _ => .inr (by omega)⟩
      show (if a.n0 + j < a.n0 then a.n0 + j else _) = k
      rw [if_neg (by omega), show a.n0 + j - a.n0 = j by omega]
      exact n2
  · rw [hsv] at h
    rcases List.mem_append.1 (assoc_mem h) with h | h
    · obtain ⟨q, h1, h2⟩ := List.mem_map.1 h
      injection h2 with h2 h3
      subst h2 h3
      have := (hkv _ h1).1
      exact ⟨if_pos this, fun hu => .inl ⟨this, hu⟩⟩
    · obtain ⟨j, g1, rfl⟩ := number_mem h
      obtain ⟨n1, n2⟩ := new g1
      refine ⟨?_, fun _ => .inr (by omega)⟩
      show (if a.n0 + ks.length + j < a.n0 then _ else vs.getD (a.n0 + ks.length + j - (a.n0 + ks.length)) 0) = k
      rw [if_neg (by omega), show a.n0 + ks.length + j - (a.n0 + ks.length) = j by omega]
      exact n2
  · rcases row2 k' r h with ⟨h1, h2, h3⟩ | ⟨j, k, h1, rfl, h3⟩
    · simp only [if_pos h1]
      exact ⟨h3, fun hu => .inl ⟨h1, hu⟩⟩
    · obtain ⟨n1, n2⟩ := new h1
      simp only [if_neg (show ¬ a.n0 + j < a.n0 by omega), show a.n0 + j - a.n0 = j by omega, n2]
      exact ⟨h3, fun _ => .inr (by omega)⟩
  · obtain ⟨c, e, h⟩ := var2 k' c' h
    refine ⟨c, ?_⟩
    rcases h with ⟨h1, h2, h3⟩ | ⟨j, k, h1, rfl, h3⟩
    · simp only [if_pos h1]
      exact ⟨h3, e, fun hu => .inl ⟨h1, hu⟩⟩
    · obtain ⟨n1, n2⟩ := new h1
      simp only [if_neg (show ¬ a.n0 + ks.length + j < a.n0 by omega), show a.n0 + ks.length + j - (a.n0 + ks.length) = j by omega, n2]
      exact ⟨h3, e, fun _ => .inr (by omega)⟩
  · rcases row2 k r h1 with ⟨a1, a2, _⟩ | ⟨j, p, a1, rfl, _⟩ <;> rcases row2 l r' h2 with ⟨b1, b2, _⟩ | ⟨i, q, b1, rfl, _⟩
    · simp only [if_pos a1, if_pos b1]
      exact hne
    · obtain ⟨n1, n2⟩ := new b1
      simp only [if_pos a1, if_neg (show ¬ a.n0 + i < a.n0 by omega), show a.n0 + i - a.n0 = i by omega, n2]
      intro e
      subst e
      exact (hkr _ a2).2 (List.mem_of_getElem? b1)
    · obtain ⟨n1, n2⟩ := new a1
      simp only [if_pos b1, if_neg (show ¬ a.n0 + j < a.n0 by omega), show a.n0 + j - a.n0 = j by omega, n2]
      intro e
      subst e
      exact (hkr _ b2).2 (List.mem_of_getElem? a1)
    · obtain ⟨n1, n2⟩ := new a1
      obtain ⟨m1, m2⟩ := new b1
      simp only [if_neg (show ¬ a.n0 + j < a.n0 by omega), show a.n0 + j - a.n0 = j by omega, n2, if_neg (show ¬ a.n0 + i < a.n0 by omega), show a.n0 + i - a.n0 = i by omega, m2]
      intro e
      subst e
      have := (List.getElem?_inj n1 hk).1 (a1.trans b1.symm)
      omega
  · obtain ⟨_, _, h1⟩ := var2 k c h1
    obtain ⟨_, _, h2⟩ := var2 l c' h2
    rcases h1 with ⟨a1, a2, _⟩ | ⟨j, p, a1, rfl, _⟩ <;> rcases h2 with ⟨b1, b2, _⟩ | ⟨i, q, b1, rfl, _⟩
    · simp only [if_pos a1, if_pos b1]
      exact hne
    · obtain ⟨n1, n2⟩ := new b1
      simp only [if_pos a1, if_neg (show ¬ a.n0 + ks.length + i < a.n0 by omega), show a.n0 + ks.length + i - (a.n0 + ks.length) = i by omega, n2]
      intro e
      subst e
      exact (hkv _ a2).2 (List.mem_of_getElem? b1)
    · obtain ⟨n1, n2⟩ := new a1
      simp only [if_pos b1, if_neg (show ¬ a.n0 + ks.length + j < a.n0 by omega), show a.n0 + ks.length + j - (a.n0 + ks.length) = j by omega, n2]
      intro e
      subst e
      exact (hkv _ b2).2 (List.mem_of_getElem? a1)
    · obtain ⟨n1, n2⟩ := new a1
      obtain ⟨m1, m2⟩ := new b1
      simp only [if_neg (show ¬ a.n0 + ks.length + j < a.n0 by omega), show a.n0 + ks.length + j - (a.n0 + ks.length) = j by omega, n2, if_neg (show ¬ a.n0 + ks.length + i < a.n0 by omega), show a.n0 + ks.length + i - (a.n0 + ks.length) = i by omega, m2]
      intro e
      subst e
      have := (List.getElem?_inj n1 hv).1 (a1.trans b1.symm)
      omega
  · rintro k (⟨h1, h2⟩ | ⟨h1, h2⟩)
    · rw [hN]; omega
    · rw [hN]; exact h2

section
variable {B : Nat} {s0 : S4} {nt : Nat}
theorem canonS_ok (h0 : MemOk B s0) {T : TF} {a : Act} {s : S4} (h : Fr B s0 nt T a s) {c : Canon} {m : Snap} (hK : canonS s0.H.nx c T s.H = some m) :
    ∃ s', s'.W = s.W ∧ s'.H = m.H ∧ Fr B s0 nt m.T a s' := by
  unfold canonS at hK
  split at hK
  · cases hK
  rename_i T0 H0 hflat
  obtain ⟨sf, rfl, f2, f3, f4, f5, f6⟩ := flatAll_ok h.m h.t hflat
  simp only at f6
  have h : Fr B s0 nt T0 a sf := ⟨f4, h.x.trans f5, f6, h.d, h.n, fun k hk => h.u k (by rw [← f3]; exact hk)⟩
  rw [← f2]
  split at hK
  · cases hK
  · rename_i ks T1 H1 hown
    obtain ⟨t, rfl, a2, a3, a4, a5, a6⟩ := ownAll_ok h.m h.t hown
    simp only at a5 hK
    split at hK
    · cases hK
    · rename_i vs hvs
      split at hK
      · cases hK
      · rename_i hq
        injection hK with hK
        simp only [Bool.and_eq_true, List.all_eq_true] at hq
        obtain ⟨⟨⟨⟨q1, q2⟩, q3⟩, q4⟩, q5⟩ := hq
        have q1 := of_decide_eq_true q1
        have q2 := of_decide_eq_true q2
        have q3 : s0.H.nx ≤ c.n0 := by simpa [Nat.ble_eq] using q3
        have ht := turn_of (s := t) (a := c) (base := s0.H.nx) q1 q2 (fun k hk => by
            have := q4 k hk
            simp at this
            exact this) (fun k hk => by
            have := q5 k hk
            simp at this
            exact this) (sub := ⟨_, _⟩) rfl rfl (H2 := ⟨_, _, _⟩) rfl rfl rfl
        subst hK
        refine ⟨_, ?_, rfl, ⟨memOk_turned ht a3, ext_turned ht (h.x.trans a4) (n0 := c.n0) (fun k hk => Nat.lt_of_lt_of_le (h0.un k hk) q3) (by show s0.H.nx ≤ c.n0 + ks.length + vs.length; omega) (fun k hk => if_pos hk) (fun k hk => if_pos hk) (fun k hk hu => .inl ⟨hk, hu⟩), ?_, h.d, h.n, fun k hk => ?_⟩⟩
        · exact a2
        · refine ⟨fun i => ?_, (h.t.gl.mono a4.i a4.w : GlobW t.W t.I)⟩
          rcases tabT_get (fun i => (T1 i).norm ⟨c.keepV.map (fun k => (k, k)) ++ number vs (c.n0 + ks.length), c.keepR.map (fun k => (k, k)) ++ number ks c.n0⟩) c.tmps i with e | e
          · show RelV _ (tabT _ i) _
            rw [e]
            exact relV_undef
          · show RelV _ (tabT _ i) _
            rw [e]
            exact normV_rel ht (a5.tmp i)
        · rcases hk with ⟨_, hk⟩ | ⟨hk, _⟩
          · rcases a6 k hk with hk | hk
            · exact h.u k hk
            · exact .inr (Nat.le_trans h.x.nx hk)
          · exact .inr (Nat.le_trans q3 hk)
end

/-! ### what is told by a shape -/
theorem castT_eq {u : U} {x y : u.T} (h : castT u x = some y) : y = x := by
  obtain ⟨e, h⟩ := castT_some h
  exact h.symm
theorem Sh.dec_enc : ∀ {s : Sh} {r : U} {v : V} {y : r.T} {z : (s.C r).T}, s.dec r v y = some z → s.enc r z = (v, y) := by
  intro s
  induction s with
  | d u =>
    intro r v y z h
    cases v with
    | d u' x =>
      simp only [Sh.dec] at h
      split at h
      · rename_i x' hc
        obtain ⟨e, hc⟩ := castT_some hc
        subst e
        injection h with h
        subst h
        subst hc
        rfl
      · cases h
    | _ => simp [Sh.dec] at h
  | cons a b iha ihb =>
    intro r v y z h
    cases v with
    | cons va vb =>
      simp only [Sh.dec] at h
      split at h
      · rename_i w hb
        have e1 := iha h
        have e2 := ihb hb
        simp only [Sh.enc, e1, e2]
      · cases h
    | _ => simp [Sh.dec] at h
  | fn f a b iha ihb =>
    intro r v y z h
    cases v with
    | fn f' va vb =>
      simp only [Sh.dec] at h
      split at h
      · rename_i hf
        have hf := nat_beq hf
        subst hf
        split at h
        · rename_i w hb
          have e1 := iha h
          have e2 := ihb hb
          simp only [Sh.enc, e1, e2]
        · cases h
      · cases h
    | _ => simp [Sh.dec] at h
  | pdeep u =>
    intro r v y z h
    cases v with
    | pdeep u' x =>
      simp only [Sh.dec] at h
      split at h
      · rename_i x' hc
        obtain ⟨e, hc⟩ := castT_some hc
        subst e
        injection h with h
        subst h
        subst hc
        rfl
      · cases h
    | _ => simp [Sh.dec] at h
  | dfull u =>
    intro r v y z h
    cases v with
    | dfull u' x =>
      simp only [Sh.dec] at h
      split at h
      · rename_i x' hc
        obtain ⟨e, hc⟩ := castT_some hc
        injection e with e
        subst e
        injection h with h
        subst h
        have hc : x = x' := hc
        subst hc
        rfl
      · cases h
    | _ => simp [Sh.dec] at h
  | nil =>
    intro r v y z h
    cases v <;> simp [Sh.dec] at h
    injection h with h
    subst h
    rfl
  | nilsl =>
    intro r v y z h
    cases v <;> simp [Sh.dec] at h
    injection h with h
    subst h
    rfl
  | undef =>
    intro r v y z h
    cases v <;> simp [Sh.dec] at h
    injection h with h
    subst h
    rfl
  | row k =>
    intro r v y z h
    cases v with
    | row k' =>
      simp only [Sh.dec] at h
      split at h
      · rename_i hk
        have hk := nat_beq hk
        subst hk
        injection h with h
        subst h
        rfl
      · cases h
    | _ => simp [Sh.dec] at h
  | pvar k p =>
    intro r v y z h
    cases v with
    | pvar k' p' =>
      simp only [Sh.dec] at h
      split at h
      · rename_i hk
        simp only [Bool.and_eq_true, decide_eq_true_eq] at hk
        have hk1 := nat_beq hk.1
        have hk2 := hk.2
        subst hk1 hk2
        injection h with h
        subst h
        rfl
      · cases h
    | _ => simp [Sh.dec] at h
theorem decL_enc : ∀ {l : List (Nat × Sh)} {r : U} {m : List (Nat × V)} {y : r.T} {z : (CL l r).T}, decL l r m y = some z → encL l r z = (m, y)
  | [], r, m, y, z, h => by
    cases m with
    | nil => simp only [decL] at h; injection h with h; subst h; rfl
    | cons p m => simp [decL] at h
  | p :: l, r, m, y, z, h => by
    cases m with
    | nil => simp [decL] at h
    | cons q m =>
      obtain ⟨k, v⟩ := q
      simp only [decL] at h
      split at h
      · rename_i hk
        have hk := nat_beq hk
        split at h
        · rename_i w hw
          have e1 := Sh.dec_enc h
          have e2 := decL_enc hw
          simp only [encL, e1, e2, hk]
        · cases h
      · cases h
theorem decO_enc : ∀ {l : List (Nat × Sh)} {r : U} {m : List (Nat × Option V)} {y : r.T} {z : (CL l r).T}, decO l r m y = some z → ∃ m', m = m'.map (fun p => (p.1, some p.2)) ∧ encL l r z = (m', y)
  | [], r, m, y, z, h => by
    cases m with
    | nil => simp only [decO] at h; injection h with h; subst h; exact ⟨[], rfl, rfl⟩
    | cons p m => simp [decO] at h
  | p :: l, r, m, y, z, h => by
    cases m with
    | nil => simp [decO] at h
    | cons q m =>
      obtain ⟨k, v⟩ := q
      cases v with
      | none => simp [decO] at h
      | some v =>
        simp only [decO] at h
        split at h
        · rename_i hk
          have hk := nat_beq hk
          split at h
          · rename_i w hw
            have e1 := Sh.dec_enc h
            obtain ⟨m', rfl, e2⟩ := decO_enc hw
            exact ⟨(k, v) :: m', rfl, by simp only [encL, e1, e2, hk]⟩
          · cases h
        · cases h
theorem decR_enc : ∀ {l : List (Nat × U × Bool)} {m : List (Nat × Option Row)} {z : (CR l).T}, decR l m = some z → encR l z = m
  | [], m, z, h => by
    cases m with
    | nil => rfl
    | cons p m => simp [decR] at h
  | p :: l, m, z, h => by
    cases m with
    | nil => simp [decR] at h
    | cons q m =>
      obtain ⟨k, o⟩ := q
      cases o with
      | none => simp [decR] at h
      | some row =>
        obtain ⟨u, xs, w⟩ := row
        simp only [decR] at h
        split at h
        · rename_i hk
          simp only [Bool.and_eq_true, beq_iff_eq] at hk
          obtain ⟨hk, hw⟩ := hk
          have hk := nat_beq hk
          split at h
          · rename_i x hc
            split at h
            · rename_i z' hz
              injection h with h
              subst h
              obtain ⟨e, hc⟩ := castT_some hc
              injection e with e
              subst e
              have hc : xs = x := hc
              subst hc
              simp only [encR, decR_enc hz, hk, hw]
            · cases h
          · cases h
        · cases h
theorem St.dec_snap {s : St} {m : Snap} {x : s.C.T} (h : s.dec m = some x) : m = s.snap x := by
  unfold St.dec at h
  split at h
  · rename_i hn
    have hn := nat_beq hn
    split at h
    · rename_i z hz
      split at h
      · rename_i y hy
        obtain ⟨m', e1, e2⟩ := decO_enc hy
        have e3 := decL_enc h
        have e4 := decR_enc hz
        obtain ⟨a, b, c, d⟩ := m
        simp only at e1 e3 e4 hn
        unfold St.snap
        rw [e3]
        simp only
        rw [e2]
        simp only
        rw [e4, e1, hn]
      · cases h
    · cases h
  · cases h

/-! ### code -/
def exOf : Ex → Exit
  | .normal => .normal
  | .exit i => .exit i
  | .ret => .ret
/-- What is said of a loop is so. -/
def LoopOk (E : TE) (S : FuncId → Option Sum) (inlP : (β : Type) → FuncId → V → HF → (V → HF → Option β) → Option β) (ann : Nat → Nat → Option LoopSum) (nt base : Nat) (c : Code) (a : LoopSum) : Prop :=
  ∀ x o, a.F x = some o → ∃ n, iterL (fun x => den E S (inlP _) ann nt base c 0 (a.h.snap x).T (a.h.snap x).H (roundK base a)) n x = some o
/-- Where the walk has come. -/
def Post {β : Type} (B : Nat) (s0 : S4) (nt : Nat) (K : Ex → TF → HF → Option β) (r : β) (e : Exit) (a : Act) (w : World) : Prop :=
  ∃ ex T s, e = exOf ex ∧ s.W = w ∧ Fr B s0 nt T a s ∧ K ex T s.H = some r
section
variable {P : Program} {E : TE} {S : FuncId → Option Sum} {inlP : (β : Type) → FuncId → V → HF → (V → HF → Option β) → Option β} (hvP : ∀ β, Env P E S (inlP β)) {B : Nat} {s0 : S4} (h0 : MemOk B s0) {nt : Nat} {ann : Nat → Nat → Option LoopSum}

include hvP h0
theorem den_ok : ∀ (c : Code) (cur : Nat) (hL : ∀ p ∈ loopsIn c cur, ∀ a, ann s0.H.nx p.1 = some a → LoopOk E S inlP ann nt s0.H.nx p.2 a) (β : Type) (T : TF) (a : Act) (s : S4) (K : Ex → TF → HF → Option β) (r : β),
    Fr B s0 nt T a s → den E S (inlP β) ann nt s0.H.nx c cur T s.H K = some r → c.wp P (Post B s0 nt K r) a s.W
  | .skip, cur, hL, β, T, a, s, K, r, h, hK => wp_skip ⟨.normal, T, s, rfl, rfl, h, hK⟩
  | .region id ops false, cur, hL, β, T, a, s, K, r, h, hK => by
    apply wp_region
    simp only [den] at hK
    rw [List.range_eq_range']
    have m : MemOk B { s with H := { s.H with nx := s.H.nx + 16 * ops.size } } ∧ Ext B s { s with H := { s.H with nx := s.H.nx + 16 * ops.size } } := by
      have x : Ext B s { s with H := { s.H with nx := s.H.nx + 16 * ops.size } } := ⟨fun _ h => h, fun _ h => .inl h, fun _ _ => rfl, Below.refl _ _, fun _ h => h, Nat.le_add_right _ _, fun k c _ hc => ⟨c, hc, rfl, rfl⟩, fun k r _ hr => ⟨r, hr, rfl, rfl, rfl, fun _ _ _ => rfl⟩⟩
      refine ⟨⟨h.m.ilt, h.m.bsz, fun k hk => Nat.lt_of_lt_of_le (h.m.un k hk) (Nat.le_add_right _ _), fun k c hc => ?_, h.m.row, h.m.vv, h.m.rr, h.m.vr⟩, x⟩
      obtain ⟨h1, h2, h3, cs, t, h4, h5⟩ := h.m.var k c hc
      exact ⟨h1, h2, h3, cs, t, h4, RelC.ext x h5⟩
    have := runOps_ok (hvP β) (Q := Post B s0 nt K r) (N0 := s.H.nx) h.x.nx (K := fun T' H' => K .normal T' H') (r := r) (ops := ops) ops.toList 0 T a { s with H := { s.H with nx := s.H.nx + 16 * ops.size } } ⟨m.1, h.x.trans m.2, h.t.ext m.2, h.d, h.n, h.u⟩ rfl (Nat.le_refl _)
      (fun k h1 h2 hk => by
        have := h.m.un k hk
        omega) hK (fun a' T' t h' hK' => ⟨.normal, T', t, rfl, rfl, h', hK'⟩)
    simpa using this
  | .region id ops true, cur, hL, β, T, a, s, K, r, h, hK => by
    simp only [den] at hK
    exact any_ok (hvP β) (hvP β).E.mixed h hK (fun a' T' t h' hK' => ⟨.normal, T', t, rfl, rfl, h', hK'⟩)
  | .seq x y, cur, hL, β, T, a, s, K, r, h, hK => by
    simp only [den] at hK
    refine wp_seq (wp_mono (den_ok x 0 (fun p hp => hL p (by simp [loopsIn, hp])) β T a s _ r h hK) ?_)
    rintro e a' w ⟨ex, T', s', rfl, rfl, h', hK'⟩
    cases ex with
    | normal => exact den_ok y 0 (fun p hp => hL p (by simp [loopsIn, hp])) β T' a' s' K r h' hK'
    | exit i => exact ⟨.exit i, T', s', rfl, rfl, h', hK'⟩
    | ret => exact ⟨.ret, T', s', rfl, rfl, h', hK'⟩
  | .cond c x y, cur, hL, β, T, a, s, K, r, h, hK => by
    simp only [den] at hK
    split at hK
    · rename_i b hb
      have e := evO_bool h.t hb
      have hT : ∀ b', b = b' → Fr B s0 nt (updC T c b') a s := by
        rintro b' rfl
        cases c with
        | tmp t => exact ⟨h.m, h.x, trel_same h.t hb, h.d, h.n, h.u⟩
        | _ => exact h
      cases b with
      | true => exact wp_cond_true e (den_ok x 0 (fun p hp => hL p (by simp [loopsIn, hp])) β _ a s K r (hT true rfl) hK)
      | false => exact wp_cond_false e (den_ok y 0 (fun p hp => hL p (by simp [loopsIn, hp])) β _ a s K r (hT false rfl) hK)
    · cases hK
  | .block id c, cur, hL, β, T, a, s, K, r, h, hK => by
    simp only [den] at hK
    refine wp_block (wp_mono (den_ok c id (fun p hp => hL p (by simpa [loopsIn] using hp)) β T a s _ r h hK) ?_)
    rintro e a' w ⟨ex, T', s', rfl, rfl, h', hK'⟩
    cases ex with
    | normal => exact ⟨.normal, T', s', rfl, rfl, h', hK'⟩
    | exit i =>
      simp only [exOf, Exit.inBlock]
      simp only [blkK] at hK'
      split at hK'
      · rename_i e
        have := nat_beq e
        subst this
        rw [if_pos rfl]
        exact ⟨.normal, T', s', rfl, rfl, h', hK'⟩
      · rename_i e
        rw [if_neg (by rintro rfl; simp at e)]
        exact ⟨.exit i, T', s', rfl, rfl, h', hK'⟩
    | ret => exact ⟨.ret, T', s', rfl, rfl, h', hK'⟩
  | .loop c, cur, hL, β, T, a, s, K, r, h, hK => by
    simp only [den] at hK
    split at hK
    · rename_i an han
      have hLo := hL (cur, c) (by simp [loopsIn]) an han
      have hLc : ∀ p ∈ loopsIn c 0, ∀ a, ann s0.H.nx p.1 = some a → LoopOk E S inlP ann nt s0.H.nx p.2 a := fun p hp => hL p (by simp [loopsIn, hp])
      unfold headK at hK
      split at hK
      case h_2 => cases hK
      rename_i m hm
      split at hK
      case h_2 => cases hK
      rename_i x hx
      cases hF : an.F x with
      | none => rw [hF] at hK; cases hK
      | some o =>
        rw [hF] at hK
        have hK : leaveK an K o = some r := hK
        obtain ⟨n, hn⟩ := hLo x o hF
        obtain ⟨s1, e1, eH, h1⟩ := canonS_ok h0 h hm
        have em := St.dec_snap hx
        subst em
        rw [← e1]
        intro b k cs
        have key : ∀ (n : Nat) (x : an.h.C.T) (a : Act) (s : S4), Fr B s0 nt (an.h.snap x).T a s → s.H = (an.h.snap x).H →
            iterL (fun x => den E S (inlP _) ann nt s0.H.nx c 0 (an.h.snap x).T (an.h.snap x).H (roundK s0.H.nx an)) n x = some o →
            ∃ e a' w', Post B s0 nt K r e a' w' ∧ Arrives P (lone (b.at a (.code c :: .inLoop c :: k)) cs s.W) b k cs e a' w' := by
          intro n
          induction n with
          | zero => intro x a s h hH hi; cases hi
          | succ n ih =>
            intro x a s h hH hi
            simp only [iterL] at hi
            split at hi
            · rename_i y hy
              rw [← hH] at hy
              obtain ⟨e, a1, w1, ⟨ex, T', s', rfl, rfl, h', hK'⟩, harr⟩ := den_ok c 0 hLc _ _ a s _ _ h hy b (.inLoop c :: k) cs
              cases ex with
              | normal =>
                simp only [roundK] at hK'
                split at hK'
                · rename_i m2 hm2
                  split at hK'
                  · rename_i y' hy'
                    injection hK' with hK'
                    injection hK' with hK'
                    subst hK'
                    obtain ⟨s2, e2, eH2, h2⟩ := canonS_ok h0 h' hm2
                    have em2 := St.dec_snap hy'
                    subst em2
                    obtain ⟨e, a', w', hq, harr2⟩ := ih y' a1 s2 h2 eH2 hi
                    rw [e2] at harr2
                    exact ⟨e, a', w', hq, .of_steps (Steps.trans harr (.one step_inLoop)) harr2⟩
                  · cases hK'
                · cases hK'
              | exit i =>
                simp only [roundK] at hK'
                split at hK'
                · split at hK'
                  · split at hK'
                    · injection hK' with hK'; cases hK'
                    · cases hK'
                  · cases hK'
                · cases hK'
              | ret =>
                simp only [roundK] at hK'
                split at hK'
                · split at hK'
                  · injection hK' with hK'; cases hK'
                  · cases hK'
                · cases hK'
            · rename_i l hl
              injection hi with hi
              subst hi
              rw [← hH] at hl
              obtain ⟨e, a1, w1, ⟨ex, T', s', rfl, rfl, h', hK'⟩, harr⟩ := den_ok c 0 hLc _ _ a s _ _ h hl b (.inLoop c :: k) cs
              cases ex with
              | normal =>
                simp only [roundK] at hK'
                split at hK'
                · split at hK'
                  · injection hK' with hK'; cases hK'
                  · cases hK'
                · cases hK'
              | exit i =>
                simp only [roundK] at hK'
                split at hK'
                · rename_i hid
                  have hid := nat_beq hid
                  subst hid
                  split at hK'
                  · rename_i m2 hm2
                    split at hK'
                    · rename_i y' hy'
                      injection hK' with hK'
                      injection hK' with hK'
                      subst hK'
                      obtain ⟨s2, e2, eH2, h2⟩ := canonS_ok h0 h' hm2
                      have em2 := St.dec_snap hy'
                      subst em2
                      exact ⟨_, a1, s'.W, ⟨.exit an.xid, _, s2, rfl, e2, h2, by rw [eH2]; exact hK⟩, .pass (x := .inLoop c) rfl (fun _ _ => .inl (by simp [exOf])) harr⟩
                    · cases hK'
                  · cases hK'
                · cases hK'
              | ret =>
                simp only [roundK] at hK'
                split at hK'
                · rename_i m2 hm2
                  split at hK'
                  · rename_i y' hy'
                    injection hK' with hK'
                    injection hK' with hK'
                    subst hK'
                    obtain ⟨s2, e2, eH2, h2⟩ := canonS_ok h0 h' hm2
                    have em2 := St.dec_snap hy'
                    subst em2
                    exact ⟨_, a1, s'.W, ⟨.ret, _, s2, rfl, e2, h2, by rw [eH2]; exact hK⟩, .pass (x := .inLoop c) rfl (fun _ _ => .inl (by simp [exOf])) harr⟩
                  · cases hK'
                · cases hK'
            · cases hi
        obtain ⟨e, a', w', hq, harr⟩ := key n x a s1 h1 eH hn
        exact ⟨e, a', w', hq, .of_steps (.one step_loop) harr⟩
    · cases hK
  | .exit id, cur, hL, β, T, a, s, K, r, h, hK => wp_exit ⟨.exit id, T, s, rfl, rfl, h, hK⟩
  | .ret, cur, hL, β, T, a, s, K, r, h, hK => wp_ret ⟨.ret, T, s, rfl, rfl, h, hK⟩
  | .label _, cur, hL, β, T, a, s, K, r, h, hK => by cases hK
  | .goto _, cur, hL, β, T, a, s, K, r, h, hK => by cases hK
end
end Go.Proofs.YtdfhopakojmjkaaDoor.Den
