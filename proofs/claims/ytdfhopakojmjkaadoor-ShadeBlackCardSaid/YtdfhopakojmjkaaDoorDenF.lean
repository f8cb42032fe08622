/- Operations that read: load, field's and element's address; each as the machine does it. -/
import Derived.Test.YtdfhopakojmjkaaDoorDenE
namespace Go.Proofs.YtdfhopakojmjkaaDoor.Den
open Go Go.RowKit
set_option linter.unusedVariables false

theorem nat_beq {a b : Nat} (h : Nat.beq a b = true) : a = b := Nat.eq_of_beq_eq_true h
theorem isVal_one {g : Bool} {v x : Value} (h : IsVal g [v] x) (hg : g = false) : x = v := by
  subst hg
  simp [IsVal] at h
  exact h.symm
theorem ptr_val {s : S4} {v : V} {x : Value} {w : Value} (h : RelV s v x) (h1 : v ≠ .undef) (h2 : ∀ w, v ≠ .tup w) (hs : v.agg = false) (hc : ∀ cs, RelC s v cs → cs = [w]) : x = w := by
  obtain ⟨cs, hr, hv⟩ := h.get h1 h2
  have := hc cs hr
  subst this
  exact isVal_one hv hs

theorem off_append : ∀ {u : U} {p q : List Step} {v : U} {o o' : Nat}, dcode u p = some v → u.off p = some o → v.off q = some o' → u.off (p ++ q) = some (o + o')
  | u, [], q, v, o, o', h, ho, hq => by
    rw [dcode_nil] at h
    injection h with h
    subst h
    rw [off_nil] at ho
    injection ho with ho
    subst ho
    simpa using hq
  | .cons a b, .fld 0 :: p, q, v, o, o', h, ho, hq => off_append (u := a) h ho hq
  | .cons a b, .fld (n + 1) :: p, q, v, o, o', h, ho, hq => by
    simp only [U.off] at ho
    cases hb : b.off (.fld n :: p) with
    | none => rw [hb] at ho; cases ho
    | some o1 =>
      rw [hb] at ho
      injection ho with ho
      subst ho
      have := off_append (u := b) (p := .fld n :: p) h hb hq
      simp only [List.cons_append, U.off] at this ⊢
      rw [this]
      simp [Nat.add_assoc]
  | .arr n u, .idx i :: p, q, v, o, o', h, ho, hq => by
    simp only [U.off] at ho
    cases hb : u.off p with
    | none => rw [hb] at ho; cases ho
    | some o1 =>
      rw [hb] at ho
      simp only at ho
      by_cases hi : i < n
      · rw [if_pos hi] at ho
        injection ho with ho
        subst ho
        have := off_append (u := u) (p := p) h hb hq
        simp only [List.cons_append, U.off]
        rw [this]
        simp [hi, Nat.add_assoc]
      · rw [if_neg hi] at ho; cases ho
  | .int _, _ :: _, _, _, _, _, h, _, _ => by simp [dcode] at h
  | .bool, _ :: _, _, _, _, _, h, _, _ => by simp [dcode] at h
  | .sl _, _ :: _, _, _, _, _, h, _, _ => by simp [dcode] at h
  | .nil, _ :: _, _, _, _, _, h, _, _ => by simp [dcode] at h
  | .cons _ _, .idx _ :: _, _, _, _, _, h, _, _ => by simp [dcode] at h
  | .arr _ _, .fld _ :: _, _, _, _, _, h, _, _ => by simp [dcode] at h

/-! ### what a pointer leads to -/
/-- A pointer into a variable. -/
theorem pvar_at {B : Nat} {s : S4} (h : MemOk B s) {k : Nat} {p : List Step} {x : Value} (hx : RelV s (.pvar k p) x) {c : V} (hc : s.H.var k = some c) :
    ∃ o cs t, x = .pointer (some ⟨s.ρ.var k, o, none⟩) ∧ c.sk.off p = some o ∧ s.W.heap[s.ρ.var k]? = some (.cells cs t (0, 0)) ∧ RelC s c cs.toList := by
  obtain ⟨cs, hr, hv⟩ := hx.get (by intro h; cases h) (by intro w h; cases h)
  simp only [RelC] at hr
  obtain ⟨_, v, rfl, _, hp⟩ := hr
  obtain ⟨o, ho, rfl⟩ := hp c hc
  obtain ⟨_, _, _, ds, t, hb, hd⟩ := h.var k c hc
  exact ⟨o, ds, t, isVal_one hv rfl, ho, hb, hd⟩
/-- A pointer into an element of a row. -/
theorem prow_at {B : Nat} {s : S4} (h : MemOk B s) {k i : Nat} {p : List Step} {x : Value} (hx : RelV s (.prow k i p) x) {r : Row} (hr : s.H.row k = some r) :
    ∃ b base o cur t c, x = .pointer (some ⟨b, base + i * r.u.size + o, none⟩) ∧ s.ρ.row k = some (b, base) ∧ i < r.xs.length ∧ r.u.off p = some o ∧ s.W.heap[b]? = some (.cells cur t (0, 0)) ∧
      base + r.xs.length * r.u.size ≤ cur.size ∧ RelD s.W s.I r.u (r.xs.getD i r.u.zero) c ∧ ∀ (j : Nat) (v : Value), c[j]? = some v → cur[base + i * r.u.size + j]? = some v := by
  obtain ⟨cs, hc, hv⟩ := hx.get (by intro h; cases h) (by intro w h; cases h)
  simp only [RelC] at hc
  obtain ⟨_, v, rfl, _, hp⟩ := hc
  obtain ⟨b, base, o, h1, h2, h3, rfl⟩ := hp r hr
  obtain ⟨_, _, h4⟩ := h.row k r hr
  rcases h4 with h4 | ⟨b', base', cur, t, e, hh, _, _, hs, hx⟩
  · rw [h4.2] at h1; cases h1
  · have he := e
    rw [h1] at he
    injection he with he
    injection he with e1 e2
    subst e1 e2
    have hxi : r.xs[i]? = some (r.xs.getD i r.u.zero) := by
      rw [List.getD_eq_getElem?_getD, List.getElem?_eq_getElem h2]; rfl
    obtain ⟨c, hc, hcc⟩ := hx i _ hxi
    exact ⟨b, base, o, cur, t, c, isVal_one hv rfl, h1, h2, h3, hh, hs, hc, hcc⟩
theorem pdeep_at {s : S4} {u : U} {y : u.T} {x : Value} (hx : RelV s (.pdeep u y) x) :
    ∃ ad c, x = .pointer (some ad) ∧ s.I ad.block ∧ RelD s.W s.I u y c ∧ ∀ j w, c[j]? = some w → s.W.cell? (ad.add j) = some w := by
  obtain ⟨cs, hc, hv⟩ := hx.get (by intro h; cases h) (by intro w h; cases h)
  simp only [RelC] at hc
  obtain ⟨ad, c, rfl, h1, h2, h3⟩ := hc
  exact ⟨ad, c, isVal_one hv rfl, h1, h2, h3⟩

theorem run_sureAddr (P : Program) (W : World) (a : Addr) : (Instr.sureAddr (.pointer (some a))).run P W = .ok a W := rfl

/-! ### load -/
theorem loadV_ok {P : Program} {E : TE} (hE : TEok P E) {B : Nat} {s : S4} (h : MemOk B s) {t : Nat} {v v' : V} {H' : HF} {x : Value} (hx : RelV s v x) (hto : (loadV E s.H t v).to v' H') :
    H' = s.H ∧ ∃ y, (Instr.loadAt t x).run P s.W = .ok y s.W ∧ RelV s v' y := by
  unfold loadV at hto
  split at hto
  · rename_i k p
    split at hto
    · rename_i c hc
      split at hto
      · rename_i w hw
        split at hto
        · rename_i n g hs
          split at hto
          · rename_i hq
            obtain ⟨rfl, rfl⟩ := hto
            simp only [Bool.and_eq_true, beq_iff_eq] at hq
            obtain ⟨hn, hg⟩ := hq
            have hn := nat_beq hn
            obtain ⟨o, cs, t', rfl, ho, hb, hr⟩ := pvar_at h hx hc
            obtain ⟨g1, g2⟩ := get_rel hw hr ho
            obtain ⟨hf, hf1⟩ := hE.sz t n g hs
            obtain ⟨y, hy, hv⟩ := run_loadVar hf hf1 s.W ⟨s.ρ.var k, o, none⟩ _ (by rw [g2.len]; exact hn) (fun j u hj => by
              rw [addr_add, cell_at hb]
              rw [List.getElem?_take] at hj
              split at hj
              · rw [List.getElem?_drop] at hj
                simpa using hj
              · cases hj)
            refine ⟨rfl, y, ?_, relV_of g2 (by rw [hg]; exact hv)⟩
            simp only [Instr.loadAt, Sem.run_bind, run_sureAddr, Result.andThen_ok]
            exact hy
          · cases hto
        · cases hto
      · cases hto
    · cases hto
  · rename_i k i p
    split at hto
    · rename_i r hr
      split at hto
      · rename_i u y hd
        split at hto
        · rename_i n g hs
          split at hto
          · rename_i hq
            obtain ⟨rfl, rfl⟩ := hto
            simp only [Bool.and_eq_true, beq_iff_eq] at hq
            obtain ⟨hn, hg⟩ := hq
            have hn := nat_beq hn
            obtain ⟨b, base, o, cur, t', c, rfl, hp, hi, ho, hb, hsz, hc, hcc⟩ := prow_at h hx hr
            obtain ⟨g1, g2⟩ := dget_rel hd hc ho
            obtain ⟨hf, hf1⟩ := hE.sz t n g hs
            obtain ⟨z, hz, hv⟩ := run_loadVar hf hf1 s.W ⟨b, base + i * r.u.size + o, none⟩ _ (by rw [g2.len]; exact hn) (fun j w hj => by
              rw [addr_add, cell_at hb]
              rw [List.getElem?_take] at hj
              split at hj
              · rw [List.getElem?_drop] at hj
                have := hcc (o + j) w hj
                rw [Nat.add_assoc]
                exact this
              · cases hj)
            refine ⟨rfl, z, ?_, relV_d g2 (by rw [hg]; exact hv)⟩
            simp only [Instr.loadAt, Sem.run_bind, run_sureAddr, Result.andThen_ok]
            exact hz
          · cases hto
        · cases hto
      · cases hto
    · cases hto
  · rename_i u y
    split at hto
    · rename_i n g hs
      split at hto
      · rename_i hq
        obtain ⟨rfl, rfl⟩ := hto
        simp only [Bool.and_eq_true, beq_iff_eq] at hq
        obtain ⟨hn, hg⟩ := hq
        have hn := nat_beq hn
        obtain ⟨ad, c, rfl, _, hc, hcc⟩ := pdeep_at hx
        obtain ⟨hf, hf1⟩ := hE.sz t n g hs
        obtain ⟨z, hz, hv⟩ := run_loadVar hf hf1 s.W ad c (by rw [hc.len]; exact hn) hcc
        refine ⟨rfl, z, ?_, relV_d hc (by rw [hg]; exact hv)⟩
        simp only [Instr.loadAt, Sem.run_bind, run_sureAddr, Result.andThen_ok]
        exact hz
      · cases hto
    · cases hto
  · cases hto

/-! ### a field's address -/
theorem run_fieldAt {P : Program} {t f o : Nat} {fs : Array Field} {fd : Field} (h1 : P.underlying t = some (.struct fs)) (h2 : fs[f]? = some fd) (h3 : fd.offset = o) {i : TypeInfo} (h4 : P.info? fd.type = some i) (h5 : i.size ≠ 0) (W : World) (a : Addr) :
    (Instr.fieldAt t (.pointer (some a)) f).run P W = .ok (.pointer (some (a.add o))) W := by
  subst h3
  simp [Instr.fieldAt, underlying, h1, h2, Instr.sureAddr, fieldPlace, sizeOf, typeInfo, h4, h5]

theorem fieldV_ok {P : Program} {E : TE} (hE : TEok P E) {B : Nat} {s : S4} (h : MemOk B s) {t f : Nat} {v v' : V} {H' : HF} {x : Value} (hx : RelV s v x) (hto : (fieldV E s.H t f v).to v' H') :
    H' = s.H ∧ ∃ y, (Instr.fieldAt t x f).run P s.W = .ok y s.W ∧ RelV s v' y := by
  unfold fieldV at hto
  split at hto
  · rename_i k p
    split at hto
    · rename_i c hc
      split at hto
      · rename_i w hw
        split at hto
        · rename_i o1 ho1
          split at hto
          · rename_i o2 ho2
            split at hto
            · rename_i hq
              obtain ⟨rfl, rfl⟩ := hto
              have hq := nat_beq hq
              subst hq
              obtain ⟨fs, fd, h1, h2, h3, i, h4, h5⟩ := hE.foff t f o1 ho2
              have hx0 := hx
              obtain ⟨o, cs, t', rfl, ho, hb, hr⟩ := pvar_at h hx hc
              obtain ⟨g1, g2⟩ := get_rel hw hr ho
              refine ⟨rfl, _, run_fieldAt h1 h2 h3 h4 h5 s.W _, ?_⟩
              rw [addr_add]
              obtain ⟨cs', hr', _⟩ := hx0.get (by intro h; cases h) (by intro w h; cases h)
              simp only [RelC] at hr'
              refine .inr ⟨[_], ?_, rfl⟩
              simp only [RelC]
              refine ⟨hr'.1, _, rfl, rfl, fun c' hc' => ?_⟩
              rw [hc] at hc'
              injection hc' with hc'
              subst hc'
              exact ⟨o + o1, off_append g1 ho ho1, rfl⟩
            · cases hto
          · cases hto
        · cases hto
      · cases hto
    · cases hto
  · rename_i k i p
    split at hto
    · rename_i r hr
      split at hto
      · rename_i u hd
        split at hto
        · rename_i o1 ho1
          split at hto
          · rename_i o2 ho2
            split at hto
            · rename_i hq
              obtain ⟨rfl, rfl⟩ := hto
              have hq := nat_beq hq
              subst hq
              obtain ⟨fs, fd, h1, h2, h3, q, h4, h5⟩ := hE.foff t f o1 ho2
              have hx0 := hx
              obtain ⟨b, base, o, cur, t', c, rfl, hp, hi, ho, hb, hsz, hc, hcc⟩ := prow_at h hx hr
              refine ⟨rfl, _, run_fieldAt h1 h2 h3 h4 h5 s.W _, ?_⟩
              rw [addr_add]
              obtain ⟨cs', hr', _⟩ := hx0.get (by intro h; cases h) (by intro w h; cases h)
              simp only [RelC] at hr'
              refine .inr ⟨[_], ?_, rfl⟩
              simp only [RelC]
              refine ⟨hr'.1, _, rfl, rfl, fun r' hr' => ?_⟩
              rw [hr] at hr'
              injection hr' with hr'
              subst hr'
              exact ⟨b, base, o + o1, hp, hi, off_append hd ho ho1, by rw [Nat.add_assoc]⟩
            · cases hto
          · cases hto
        · cases hto
      · cases hto
    · cases hto
  · rename_i u y
    split at hto
    · rename_i o1 ho1
      split at hto
      · rename_i o2 ho2
        split at hto
        · rename_i hq
          have hq := nat_beq hq
          subst hq
          split at hto
          · rename_i w z hd
            obtain ⟨rfl, rfl⟩ := hto
            obtain ⟨fs, fd, h1, h2, h3, q, h4, h5⟩ := hE.foff t f o1 ho2
            obtain ⟨ad, c, rfl, hI, hc, hcc⟩ := pdeep_at hx
            obtain ⟨g1, g2⟩ := dget_rel hd hc ho1
            refine ⟨rfl, _, run_fieldAt h1 h2 h3 h4 h5 s.W _, .inr ⟨[_], ?_, rfl⟩⟩
            simp only [RelC]
            refine ⟨_, _, rfl, by rw [add_block]; exact hI, g2, fun j v hj => ?_⟩
            rw [List.getElem?_take] at hj
            split at hj
            · rw [List.getElem?_drop] at hj
              have := hcc _ v hj
              have e : (ad.add o1).add j = ad.add (o1 + j) := by
                unfold Addr.add
                by_cases h1 : o1 = 0 <;> by_cases h2 : j = 0 <;> simp [h1, h2, Nat.add_assoc]
              rw [e]
              exact this
            · cases hj
          · cases hto
        · cases hto
      · cases hto
    · cases hto
  · cases hto
end Go.Proofs.YtdfhopakojmjkaaDoor.Den
