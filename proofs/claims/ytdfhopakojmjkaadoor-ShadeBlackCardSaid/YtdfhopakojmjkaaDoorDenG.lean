/- Values told as plain data; rows frozen; an element's address; slices cut. -/
import Derived.Test.YtdfhopakojmjkaaDoorDenF
namespace Go.Proofs.YtdfhopakojmjkaaDoor.Den
open Go Go.RowKit
set_option linter.unusedVariables false

/-- What is read, and the rows that a value speaks of. -/
def Iv (s : S4) (v : V) : Nat → Prop := fun b => s.I b ∨ ∃ k r base, k ∈ v.rows ∧ s.H.row k = some r ∧ s.ρ.row k = some (b, base)

theorem getD_of {α : Type} {xs : List α} {i : Nat} {d : α} (h : i < xs.length) : xs[i]? = some (xs.getD i d) := by
  rw [List.getD_eq_getElem?_getD, List.getElem?_eq_getElem h]; rfl

/-- A slice of a row, as plain data. -/
theorem row_slice {B : Nat} {s : S4} (h : MemOk B s) {k : Nat} {r : Row} (hr : s.H.row k = some r) {o n : Nat} (hon : o + n ≤ r.xs.length) {v : Value} (hv : RowV s.W (s.ρ.row k) r.u.size o n v) {J : Nat → Prop} (hJ : ∀ b, s.I b → J b) (hb : ∀ b base, s.ρ.row k = some (b, base) → J b) :
    RelD s.W J (.sl r.u) ((r.xs.drop o).take n) [v] := by
  obtain ⟨A, cap, rfl, hn, hc⟩ := hv
  have hlen : ((r.xs.drop o).take n).length = n := by simp; omega
  refine ⟨_, rfl, A, cap, by rw [hlen], by rw [hlen]; exact hn, fun i x hi => ?_⟩
  have hin : i < n := by
    have := (List.getElem?_eq_some_iff.1 hi).1
    omega
  rw [List.getElem?_take, if_pos hin, List.getElem?_drop] at hi
  rcases hc with hc | ⟨b, base, hp, hA, hs⟩
  · omega
  · obtain ⟨_, _, h3⟩ := h.row k r hr
    rcases h3 with h3 | ⟨b', base', cur, t, e, hh, _, _, hsz, hx⟩
    · rw [h3.2] at hp; cases hp
    · have he := e
      rw [hp] at he
      injection he with he
      injection he with e1 e2
      subst e1 e2
      obtain ⟨c, hc, hcc⟩ := hx _ x hi
      refine ⟨_, c, hA, hb b base hp, hc.mono hJ (fun _ _ => rfl), hc.len, fun j w hj => ?_⟩
      rw [addr_add, cell_at hh]
      have := hcc j w hj
      rw [Nat.add_mul] at this
      have e : base + o * r.u.size + (i * r.u.size + j) = base + (o * r.u.size + i * r.u.size) + j := by omega
      rw [e]
      exact this

theorem deepen_rel {B : Nat} {s : S4} (h : MemOk B s) : ∀ {u : U} {v : V} {x : u.T} {cs : List Value}, deepen s.H u v = some x → RelC s v cs → RelD s.W (Iv s v) u x cs := by
  intro u v
  induction v generalizing u with
  | d u' y =>
    intro x cs hd hr
    simp only [RelC] at hr
    have hd : castT u y = some x := by cases u <;> simpa [deepen] using hd
    obtain ⟨e, he⟩ := castT_some hd
    subst e
    have he : y = x := by simpa using he
    subst he
    exact hr.mono (fun _ hb => .inl hb) (fun _ _ => rfl)
  | cons va vb iha ihb =>
    intro x cs hd hr
    cases u <;> try (simp [deepen] at hd; done)
    rename_i a b
    simp only [RelC] at hr
    obtain ⟨c1, c2, rfl, h1, h2⟩ := hr
    simp only [deepen] at hd
    cases hx : deepen s.H a va with
    | none => rw [hx] at hd; cases hd
    | some y =>
      cases hz : deepen s.H b vb with
      | none => rw [hx] at hd; simp only [hz] at hd; cases hd
      | some z =>
        rw [hx] at hd
        simp only [hz] at hd
        injection hd with hd
        subst hd
        refine ⟨c1, c2, rfl, (iha hx h1).mono ?_ (fun _ _ => rfl), (ihb hz h2).mono ?_ (fun _ _ => rfl)⟩
        · rintro b (hb | ⟨k, r, base, hk, hr⟩)
          · exact .inl hb
          · exact .inr ⟨k, r, base, by simp [V.rows, hk], hr⟩
        · rintro b (hb | ⟨k, r, base, hk, hr⟩)
          · exact .inl hb
          · exact .inr ⟨k, r, base, by simp [V.rows, hk], hr⟩
  | nil =>
    intro x cs hd hr
    simp only [RelC] at hr
    subst hr
    cases u <;> try (simp [deepen] at hd; done)
    rfl
  | nilsl =>
    intro x cs hd hr
    simp only [RelC] at hr
    subst hr
    cases u <;> try (simp [deepen] at hd; done)
    simp only [deepen] at hd
    injection hd with hd
    subst hd
    exact ⟨_, rfl, none, 0, rfl, Nat.le_refl _, fun i x hi => by simp at hi⟩
  | dfull u' xs =>
    intro x cs hd hr
    cases u <;> try (simp [deepen] at hd; done)
    simp only [RelC] at hr
    simp only [deepen] at hd
    obtain ⟨e, he⟩ := castT_some hd
    injection e with e
    subst e
    have he : xs = x := by simpa using he
    subst he
    exact hr.1.mono (fun _ hb => .inl hb) (fun _ _ => rfl)
  | row k =>
    intro x cs hd hr
    cases u <;> try (simp [deepen] at hd; done)
    simp only [RelC] at hr
    obtain ⟨_, v, rfl, _, hv⟩ := hr
    simp only [deepen] at hd
    cases hk : s.H.row k with
    | none => rw [hk] at hd; cases hd
    | some r =>
      rw [hk] at hd
      simp only at hd
      obtain ⟨e, he⟩ := castT_some hd
      injection e with e
      subst e
      have he : r.xs = x := by simpa using he
      subst he
      have := row_slice h hk (o := 0) (n := r.xs.length) (by omega) (hv r hk) (J := Iv s (.row k)) (fun _ hb => .inl hb) (fun b base hp => .inr ⟨k, r, base, by simp [V.rows], hk, hp⟩)
      simpa using this
  | rsub k o n =>
    intro x cs hd hr
    cases u <;> try (simp [deepen] at hd; done)
    simp only [RelC] at hr
    obtain ⟨_, v, rfl, _, hv⟩ := hr
    simp only [deepen] at hd
    cases hk : s.H.row k with
    | none => rw [hk] at hd; cases hd
    | some r =>
      rw [hk] at hd
      simp only at hd
      obtain ⟨e, he⟩ := castT_some hd
      injection e with e
      subst e
      have he : (r.xs.drop o).take n = x := by simpa using he
      subst he
      obtain ⟨g1, g2⟩ := hv r hk
      exact row_slice h hk g1 g2 (J := Iv s (.rsub k o n)) (fun _ hb => .inl hb) (fun b base hp => .inr ⟨k, r, base, by simp [V.rows], hk, hp⟩)
  | _ => intro x cs hd hr; cases u <;> simp [deepen] at hd

/-- Rows frozen. -/
theorem freeze_ok {B : Nat} : ∀ (ks : List Nat) {s : S4}, MemOk B s → ∃ t : S4, t.H = s.H.freeze ks ∧ t.W = s.W ∧ t.U = s.U ∧ t.ρ = s.ρ ∧ MemOk B t ∧ Ext B s t ∧ ∀ k ∈ ks, ∀ r b base, s.H.row k = some r → s.ρ.row k = some (b, base) → t.I b := by
  intro ks
  induction ks with
  | nil => intro s h; exact ⟨s, rfl, rfl, rfl, rfl, h, Ext.refl B s, fun k hk => by cases hk⟩
  | cons k ks ih =>
    intro s h
    cases hk : s.H.row k with
    | none =>
      obtain ⟨t, h1, h2, h3, h4, h5, h6, h7⟩ := ih h
      refine ⟨t, by simp only [HF.freeze, hk]; exact h1, h2, h3, h4, h5, h6, fun j hj r b base hr hp => ?_⟩
      rcases List.mem_cons.1 hj with rfl | hj
      · rw [hk] at hr; cases hr
      · exact h7 j hj r b base hr hp
    | some r =>
      obtain ⟨t, h1, h2, h3, h4, h5, h6, h7⟩ := ih (memOk_frz h hk)
      refine ⟨t, by simp only [HF.freeze, hk]; exact h1, h2, h3, h4, h5, (ext_frz h hk).trans h6, fun j hj r' b base hr hp => ?_⟩
      rcases List.mem_cons.1 hj with rfl | hj
      · exact h6.i b (.inr ⟨base, hp⟩)
      · by_cases e : j = k
        · subst e
          exact h6.i b (.inr ⟨base, hp⟩)
        · exact h7 j hj r' b base (by simp [S4.frz, HF.setRow, nbeq e, hr]) hp

/-! ### an element's address -/
theorem relV_sl {s : S4} {u : U} {xs : List u.T} {x : Value} (h : RelV s (.d (.sl u) xs) x) : SlD s.W s.I (RelD s.W s.I u) u.size xs x := by
  obtain ⟨cs, h1, h2⟩ := h.get (by intro h; cases h) (by intro w h; cases h)
  simp only [RelC] at h1
  obtain ⟨v, rfl, hv⟩ := h1
  rw [isVal_one h2 rfl]
  exact hv
theorem relV_dfull {s : S4} {u : U} {xs : List u.T} {x : Value} (h : RelV s (.dfull u xs) x) : SlD s.W s.I (RelD s.W s.I u) u.size xs x ∧ ∃ A, x = .slice A xs.length xs.length := by
  obtain ⟨cs, h1, h2⟩ := h.get (by intro h; cases h) (by intro w h; cases h)
  simp only [RelC] at h1
  obtain ⟨⟨v, rfl, hv⟩, A, hA⟩ := h1
  rw [isVal_one h2 rfl]
  injection hA with hA
  exact ⟨hv, A, hA⟩
theorem relV_row {s : S4} {k : Nat} {x : Value} (h : RelV s (.row k) x) : s.U k ∧ x.oneCell' = true ∧ ∀ r, s.H.row k = some r → RowV s.W (s.ρ.row k) r.u.size 0 r.xs.length x := by
  obtain ⟨cs, h1, h2⟩ := h.get (by intro h; cases h) (by intro w h; cases h)
  simp only [RelC] at h1
  obtain ⟨hu, v, rfl, h3, h4⟩ := h1
  rw [isVal_one h2 rfl]
  exact ⟨hu, h3, h4⟩
theorem relV_rsub {s : S4} {k o n : Nat} {x : Value} (h : RelV s (.rsub k o n) x) : s.U k ∧ x.oneCell' = true ∧ ∀ r, s.H.row k = some r → o + n ≤ r.xs.length ∧ RowV s.W (s.ρ.row k) r.u.size o n x := by
  obtain ⟨cs, h1, h2⟩ := h.get (by intro h; cases h) (by intro w h; cases h)
  simp only [RelC] at h1
  obtain ⟨hu, v, rfl, h3, h4⟩ := h1
  rw [isVal_one h2 rfl]
  exact ⟨hu, h3, h4⟩

theorem elem_size {P : Program} {e : Nat} {u : U} {b : Nat} (h : ElemFact P e u b) (W : World) : (sizeOf e).run P W = .ok u.size W := by
  obtain ⟨i, z, h1, h2, _⟩ := h.info
  simp [sizeOf, typeInfo, h1, h2]
theorem run_indexAt_slice {P : Program} {t e : Nat} {u : U} {bt : Nat} (h1 : P.underlying t = some (.slice e)) (h2 : ElemFact P e u bt) (W : World) (a : Addr) (n c : Nat) (k : IntKind) (i : Int) (hi0 : 0 ≤ i) (hi : i < n) :
    (Instr.indexAt t (.slice (some a) n c) (.int k i)).run P W = .ok (.pointer (some (a.add (i.toNat * u.size)))) W := by
  simp [Instr.indexAt, asIntOf, underlying, h1, hi0, hi, elem_size h2]
theorem run_indexAt_array {P : Program} {t e n : Nat} {u : U} {bt : Nat} (h1 : P.underlying t = some (.array n e)) (h2 : ElemFact P e u bt) (W : World) (a : Addr) (k : IntKind) (i : Int) (hi0 : 0 ≤ i) (hi : i < n) :
    (Instr.indexAt t (.pointer (some a)) (.int k i)).run P W = .ok (.pointer (some (a.add (i.toNat * u.size)))) W := by
  simp [Instr.indexAt, asIntOf, underlying, h1, hi0, hi, elem_size h2, Instr.sureAddr]

theorem asInt_some {v : V} {n : Int} (h : asInt v = some n) : ∃ k, v = .d (.int k) n := by
  unfold asInt at h
  split at h
  · injection h with h
    subst h
    exact ⟨_, rfl⟩
  · cases h

theorem within_to {i n : Int} {r : Res} {v : V} {H : HF} (h : (within i n r).to v H) : 0 ≤ i ∧ i < n ∧ r.to v H := by
  unfold within at h
  rcases h with ⟨h1, h | h⟩ | ⟨_, h⟩
  · exact ⟨of_decide_eq_true h1, of_decide_eq_true h.1, h.2⟩
  · exact h.2.elim
  · exact h.elim

theorem sl_elem {s : S4} {u : U} {xs : List u.T} {x : Value} (h : SlD s.W s.I (RelD s.W s.I u) u.size xs x) {i : Int} (h0 : 0 ≤ i) (hi : i < xs.length) :
    ∃ ad n c, x = .slice (some ad) n c ∧ n = xs.length ∧ RelV s (.pdeep u (xs.getD i.toNat u.zero)) (.pointer (some (ad.add (i.toNat * u.size)))) := by
  obtain ⟨A, cap, rfl, hn, hx⟩ := h
  have hlt : i.toNat < xs.length := by omega
  obtain ⟨ad, c, rfl, hI, hr, hc, hcc⟩ := hx i.toNat _ (getD_of hlt)
  refine ⟨ad, _, cap, rfl, rfl, .inr ⟨[_], ?_, rfl⟩⟩
  simp only [RelC]
  refine ⟨_, c, rfl, by rw [add_block]; exact hI, hr, fun j w hj => ?_⟩
  have e : (ad.add (i.toNat * u.size)).add j = ad.add (i.toNat * u.size + j) := by
    unfold Addr.add
    by_cases h1 : i.toNat * u.size = 0 <;> by_cases h2 : j = 0 <;> simp [h1, h2, Nat.add_assoc]
  rw [e]
  exact hcc j w hj

theorem row_elem {s : S4} {k : Nat} {r : Row} (hr : s.H.row k = some r) {o n : Nat} (hu : s.U k) (hon : o + n ≤ r.xs.length) {x : Value} (h : RowV s.W (s.ρ.row k) r.u.size o n x) {i : Int} (h0 : 0 ≤ i) (hi : i < n) :
    ∃ ad m c, x = .slice (some ad) m c ∧ m = n ∧ RelV s (.prow k (o + i.toNat) []) (.pointer (some (ad.add (i.toNat * r.u.size)))) := by
  obtain ⟨A, cap, rfl, hn, hc⟩ := h
  rcases hc with hc | ⟨b, base, hp, rfl, hs⟩
  · omega
  · refine ⟨_, _, cap, rfl, rfl, .inr ⟨[_], ?_, rfl⟩⟩
    simp only [RelC]
    refine ⟨hu, _, rfl, rfl, fun r' hr' => ?_⟩
    rw [hr] at hr'
    injection hr' with hr'
    subst hr'
    refine ⟨b, base, 0, hp, by omega, off_nil, ?_⟩
    rw [addr_add, Nat.add_mul]
    simp [Nat.add_assoc]

theorem indexV_ok {P : Program} {E : TE} (hE : TEok P E) {B : Nat} {s : S4} (h : MemOk B s) {t : Nat} {k : IntKind} {i : Int} {v v' : V} {H' : HF} {x : Value} (hx : RelV s v x) (hto : (indexV E s.H t v i).to v' H') :
    H' = s.H ∧ ∃ y, (Instr.indexAt t x (.int k i)).run P s.W = .ok y s.W ∧ RelV s v' y := by
  unfold indexV at hto
  split at hto
  · rename_i u hu
    obtain ⟨e, h1, h2⟩ := hE.elem t u hu
    split at hto
    · rename_i u' xs
      split at hto
      · rename_i ys hy
        obtain ⟨e1, e2⟩ := castT_some hy
        injection e1 with e1
        subst e1
        have e2 : xs = ys := by simpa using e2
        subst e2
        obtain ⟨g0, g1, rfl, rfl⟩ := within_to hto
        obtain ⟨ad, n, c, rfl, rfl, hp⟩ := sl_elem (relV_sl hx) g0 g1
        exact ⟨rfl, _, run_indexAt_slice h1 h2 s.W ad _ c k i g0 g1, hp⟩
      · cases hto
    · rename_i u' xs
      split at hto
      · rename_i ys hy
        obtain ⟨e1, e2⟩ := castT_some hy
        injection e1 with e1
        subst e1
        have e2 : xs = ys := by simpa using e2
        subst e2
        obtain ⟨g0, g1, rfl, rfl⟩ := within_to hto
        obtain ⟨ad, n, c, rfl, rfl, hp⟩ := sl_elem (relV_dfull hx).1 g0 g1
        exact ⟨rfl, _, run_indexAt_slice h1 h2 s.W ad _ c k i g0 g1, hp⟩
      · cases hto
    · rename_i kk
      split at hto
      · rename_i r hr
        split at hto
        · rename_i hq
          have hq := of_decide_eq_true hq
          obtain ⟨g0, g1, rfl, rfl⟩ := within_to hto
          obtain ⟨a1, a2, a3⟩ := relV_row hx
          obtain ⟨ad, m, c, rfl, rfl, hp⟩ := row_elem hr a1 (by omega) (a3 r hr) g0 g1
          rw [Nat.zero_add] at hp
          exact ⟨rfl, _, run_indexAt_slice h1 (hq ▸ h2) s.W ad _ c k i g0 g1, hp⟩
        · cases hto
      · cases hto
    · rename_i kk o n
      split at hto
      · rename_i r hr
        split at hto
        · rename_i hq
          have hq := of_decide_eq_true hq
          obtain ⟨g0, g1, rfl, rfl⟩ := within_to hto
          obtain ⟨a1, a2, a3⟩ := relV_rsub hx
          obtain ⟨ad, m, c, rfl, rfl, hp⟩ := row_elem hr a1 (a3 r hr).1 (a3 r hr).2 g0 g1
          exact ⟨rfl, _, run_indexAt_slice h1 (hq ▸ h2) s.W ad _ c k i g0 g1, hp⟩
        · cases hto
      · cases hto
    · cases hto
  · split at hto
    · rename_i m u hu
      obtain ⟨e, bt, h1, h2⟩ := hE.aelem t m u hu
      split at hto
      · rename_i n u' xs
        split at hto
        · rename_i hq
          simp only [Bool.and_eq_true] at hq
          have hq1 := of_decide_eq_true hq.1
          have hq2 := nat_beq hq.2
          subst hq1 hq2
          obtain ⟨g0, g1, rfl, rfl⟩ := within_to hto
          obtain ⟨ad, c, rfl, hI, hc, hcc⟩ := pdeep_at hx
          refine ⟨rfl, _, run_indexAt_array h1 h2 s.W ad k i g0 g1, .inr ⟨[_], ?_, rfl⟩⟩
          obtain ⟨c1, c2, c3⟩ := hc
          simp only [RelC]
          refine ⟨_, _, rfl, by rw [add_block]; exact hI, c3 i.toNat _ (getD_of (by omega)), fun j w hj => ?_⟩
          rw [List.getElem?_take] at hj
          split at hj
          · rw [List.getElem?_drop] at hj
            have e : (ad.add (i.toNat * u'.size)).add j = ad.add (i.toNat * u'.size + j) := by
              unfold Addr.add
              by_cases h1 : i.toNat * u'.size = 0 <;> by_cases h2 : j = 0 <;> simp [h1, h2, Nat.add_assoc]
            rw [e]
            exact hcc _ w hj
          · cases hj
        · cases hto
      · rename_i kk p
        split at hto
        · rename_i c hc
          split at hto
          · rename_i n u' xs hg
            split at hto
            · rename_i hq
              simp only [Bool.and_eq_true] at hq
              have hq1 := of_decide_eq_true hq.1
              have hq2 := nat_beq hq.2
              subst hq1 hq2
              obtain ⟨g0, g1, rfl, rfl⟩ := within_to hto
              have hx0 := hx
              obtain ⟨o, cs, t', rfl, ho, hb, hr⟩ := pvar_at h hx hc
              obtain ⟨d1, d2⟩ := get_rel hg hr ho
              refine ⟨rfl, _, run_indexAt_array h1 h2 s.W _ k i g0 g1, ?_⟩
              rw [addr_add]
              obtain ⟨cs', hr', _⟩ := hx0.get (by intro h; cases h) (by intro w h; cases h)
              simp only [RelC] at hr'
              refine .inr ⟨[_], ?_, rfl⟩
              simp only [RelC]
              refine ⟨hr'.1, _, rfl, rfl, fun c' hc' => ?_⟩
              rw [hc] at hc'
              injection hc' with hc'
              subst hc'
              refine ⟨o + i.toNat * u'.size, off_append d1 ho ?_, rfl⟩
              simp only [V.sk, U.sk, U.off, off_nil, U.sk_size]
              rw [if_pos (by omega)]
              simp
            · cases hto
          · cases hto
        · cases hto
      · rename_i kk j p
        split at hto
        · rename_i r hr
          split at hto
          · rename_i n u' hd
            split at hto
            · rename_i hq
              simp only [Bool.and_eq_true] at hq
              have hq1 := of_decide_eq_true hq.1
              have hq2 := nat_beq hq.2
              subst hq1 hq2
              obtain ⟨g0, g1, rfl, rfl⟩ := within_to hto
              have hx0 := hx
              obtain ⟨b, base, o, cur, t', c, rfl, hp, hi, ho, hb, hsz, hc, hcc⟩ := prow_at h hx hr
              refine ⟨rfl, _, run_indexAt_array h1 h2 s.W _ k i g0 g1, ?_⟩
              rw [addr_add]
              obtain ⟨cs', hr', _⟩ := hx0.get (by intro h; cases h) (by intro w h; cases h)
              simp only [RelC] at hr'
              refine .inr ⟨[_], ?_, rfl⟩
              simp only [RelC]
              refine ⟨hr'.1, _, rfl, rfl, fun r' hr' => ?_⟩
              rw [hr] at hr'
              injection hr' with hr'
              subst hr'
              refine ⟨b, base, o + i.toNat * u'.size, hp, hi, off_append hd ho ?_, by rw [Nat.add_assoc]⟩
              simp only [U.off, off_nil]
              rw [if_pos (by omega)]
              simp
            · cases hto
          · cases hto
        · cases hto
      · cases hto
    · cases hto

/-! ### len, cuts -/
theorem lenV_ok {s : S4} {v : V} {n : Int} {x : Value} (hx : RelV s v x) (h : lenV s.H v = some n) : ∃ A m c, x = .slice A m c ∧ n = (m : Int) ∧ m ≤ c := by
  unfold lenV at h
  split at h
  · injection h with h
    obtain ⟨A, cap, rfl, hn, _⟩ := relV_sl hx
    exact ⟨A, _, cap, rfl, h.symm, hn⟩
  · injection h with h
    obtain ⟨_, A, rfl⟩ := relV_dfull hx
    exact ⟨A, _, _, rfl, h.symm, Nat.le_refl _⟩
  · injection h with h
    obtain ⟨cs, h1, h2⟩ := hx.get (by intro h; cases h) (by intro w h; cases h)
    simp only [RelC] at h1
    subst h1
    rw [isVal_one h2 rfl]
    exact ⟨none, 0, 0, rfl, h.symm, Nat.le_refl _⟩
  · rename_i k
    split at h
    · rename_i r hr
      injection h with h
      obtain ⟨_, _, h3⟩ := relV_row hx
      obtain ⟨A, cap, rfl, hn, _⟩ := h3 r hr
      exact ⟨A, _, cap, rfl, h.symm, hn⟩
    · cases h
  · rename_i k o m
    split at h
    · rename_i r hr
      injection h with h
      obtain ⟨_, _, h3⟩ := relV_rsub hx
      obtain ⟨A, cap, rfl, hn, _⟩ := (h3 r hr).2
      exact ⟨A, _, cap, rfl, h.symm, hn⟩
    · cases h
  · cases h
end Go.Proofs.YtdfhopakojmjkaaDoor.Den
