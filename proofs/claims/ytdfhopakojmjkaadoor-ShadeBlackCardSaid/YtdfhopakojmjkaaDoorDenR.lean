/- At a loop's head, and behind it: what lives on is numbered anew, the rest is forgotten. -/
import Derived.Test.YtdfhopakojmjkaaDoorDenQ
namespace Go.Proofs.YtdfhopakojmjkaaDoor.Den
open Go Go.RowKit
set_option linter.unusedVariables false
set_option linter.unusedSectionVars false

/-! ### places of one's own -/
theorem trel_set {s : S4} {T : TF} {tmps : Array Value} {i : Nat} {v : V} (h : TRel s T tmps) (hv : RelV s v (tmps.getD i undef)) : TRel s (upd T i v) tmps := by
  refine ⟨fun j => ?_, h.gl⟩
  unfold upd
  by_cases e : j = i
  · subst e
    simpa using hv
  · rw [nbeq e]
    exact h.tmp j
/-- One more number is given away. -/
def S4.bump (s : S4) : S4 := { s with H := { s.H with nx := s.H.nx + 1 } }
theorem bump_ok {B : Nat} {s : S4} (h : MemOk B s) : MemOk B s.bump ∧ Ext B s s.bump := by
  have x : Ext B s s.bump := ⟨fun _ h => h, fun _ h => .inl h, fun _ _ => rfl, Below.refl _ _, fun _ h => h, Nat.le_succ _, fun k c _ hc => ⟨c, hc, rfl, rfl⟩, fun k r _ hr => ⟨r, hr, rfl, rfl, rfl, fun _ _ _ => rfl⟩⟩
  refine ⟨⟨h.ilt, h.bsz, fun k hk => Nat.lt_succ_of_lt (h.un k hk), fun k c hc => ?_, h.row, h.vv, h.rr, h.vr⟩, x⟩
  obtain ⟨h1, h2, h3, cs, t, h4, h5⟩ := h.var k c hc
  exact ⟨h1, h2, h3, cs, t, h4, RelC.ext x h5⟩
theorem nilsl_off : ∀ {c : V} {p : List Step}, c.get p = some .nilsl → ∃ o, c.sk.off p = some o
  | c, [], h => ⟨0, off_nil⟩
  | .cons a b, .fld 0 :: p, h => by
    simp only [V.get] at h
    obtain ⟨o, ho⟩ := nilsl_off h
    exact ⟨o, by simp [V.sk, U.off, ho]⟩
  | .cons a b, .fld (i + 1) :: p, h => by
    simp only [V.get] at h
    obtain ⟨o, ho⟩ := nilsl_off h
    exact ⟨a.sk.size + o, by simp [V.sk, U.off, ho]⟩
  | .cons a b, .idx i :: p, h => by simp [V.get] at h
  | .d u x, q :: p, h => by
    simp only [V.get] at h
    split at h <;> simp at h
  | .nil, q :: p, h => by simp [V.get] at h
  | .nilsl, q :: p, h => by simp [V.get] at h
  | .dfull _ _, q :: p, h => by simp [V.get] at h
  | .row _, q :: p, h => by simp [V.get] at h
  | .rsub _ _ _, q :: p, h => by simp [V.get] at h
  | .pvar _ _, q :: p, h => by simp [V.get] at h
  | .prow _ _ _, q :: p, h => by simp [V.get] at h
  | .pdeep _ _, q :: p, h => by simp [V.get] at h
  | .fn _ _ _, q :: p, h => by simp [V.get] at h
  | .tup _, q :: p, h => by simp [V.get] at h
  | .undef, q :: p, h => by simp [V.get] at h
theorem splice_same {cs : List Value} {o n : Nat} : splice cs o ((cs.drop o).take n) = cs := by
  unfold splice
  rw [List.append_assoc]
  have : (cs.drop o).take n ++ cs.drop (o + ((cs.drop o).take n).length) = cs.drop o := by
    rw [List.length_take, List.length_drop, ← List.drop_drop]
    conv => rhs; rw [← List.take_append_drop n (cs.drop o)]
    congr 1
    rcases Nat.le_total n (cs.length - o) with h | h
    · rw [Nat.min_eq_left h]
    · rw [Nat.min_eq_right h, List.drop_eq_nil_of_le (by simp), List.drop_eq_nil_of_le (by simpa using h)]
  rw [this, List.take_append_drop]

theorem ownVar_ok {B : Nat} {s : S4} (h : MemOk B s) {u : U} (hz : 0 < u.size) {T : TF} {tmps : Array Value} (hT : TRel s T tmps) {k : Nat} {p : List Step} {r : Nat × TF × HF} (ho : ownAt.inVar u k p T s.H = some r) :
    ∃ t, t.H = r.2.2 ∧ t.W = s.W ∧ MemOk B t ∧ Ext B s t ∧ TRel t r.2.1 tmps ∧ ∀ k, t.U k → s.U k ∨ s.H.nx ≤ k := by
  unfold ownAt.inVar at ho
  split at ho
  · rename_i c hc
    split at ho
    · rename_i hg
      split at ho
      · rename_i c' hset
        injection ho with ho
        subst ho
        obtain ⟨m1, x1⟩ := bump_ok h
        obtain ⟨t, a1, a2, a3, a4, a5, a6⟩ := empty_ok m1 (key := s.H.nx) (fun hk => Nat.lt_irrefl _ (h.un _ hk)) (Nat.lt_succ_self _) hz none
        obtain ⟨o, hoff⟩ := nilsl_off hg
        have hct : t.H.var k = some c := by rw [a1]; exact hc
        obtain ⟨_, _, _, cs, ty, hb, hr⟩ := a2.var k c hct
        obtain ⟨g1, g2⟩ := get_rel hg hr hoff
        simp only [RelC] at g2
        obtain ⟨cs6, e1, e2⟩ := a6.get (by intro h; cases h) (by intro w h; cases h)
        have e3 : cs6 = [.slice none 0 0] := e2
        subst e3
        have hdc : dcode c.sk p = some (V.row s.H.nx).sk := g1
        obtain ⟨s1, s2⟩ := set_rel hset hr e1 hoff hdc
        rw [← g2, splice_same] at s2
        have hw := wset_refl hb
        refine ⟨t.putVar t.W k c', ?_, a5, memOk_putVar a2 hct s1 hw s2, (x1.trans a3).trans (ext_putVar a2 hct s1 hw), (hT.ext (x1.trans a3)).ext (ext_putVar a2 hct s1 hw), fun k hk => (a4 k hk).imp id (fun e => Nat.le_of_eq e.symm)⟩
        show t.H.setVar k c' = _
        rw [a1]
        rfl
      · cases ho
    · rename_i j hg
      injection ho with ho
      subst ho
      exact ⟨s, rfl, rfl, h, Ext.refl B s, hT, fun k hk => .inl hk⟩
    · cases ho
  · cases ho
theorem own_ok {B : Nat} {s : S4} (h : MemOk B s) {o : Place} {u : U} {T : TF} {tmps : Array Value} (hT : TRel s T tmps) {r : Nat × TF × HF} (ho : ownAt o u T s.H = some r) :
    ∃ t, t.H = r.2.2 ∧ t.W = s.W ∧ MemOk B t ∧ Ext B s t ∧ TRel t r.2.1 tmps ∧ ∀ k, t.U k → s.U k ∨ s.H.nx ≤ k := by
  unfold ownAt at ho
  split at ho
  · cases ho
  · rename_i hz
    have hz : 0 < u.size := by simpa [Nat.blt_eq] using hz
    split at ho
    · rename_i i
      split at ho
      · rename_i hi
        injection ho with ho
        subst ho
        obtain ⟨m1, x1⟩ := bump_ok h
        obtain ⟨t, a1, a2, a3, a4, a5, a6⟩ := empty_ok m1 (key := s.H.nx) (fun hk => Nat.lt_irrefl _ (h.un _ hk)) (Nat.lt_succ_self _) hz none
        refine ⟨t, by rw [a1]; rfl, a5, a2, x1.trans a3, trel_set (hT.ext (x1.trans a3)) ?_, fun k hk => (a4 k hk).imp id (fun e => Nat.le_of_eq e.symm)⟩
        have := hT.tmp i
        rw [hi] at this
        obtain ⟨cs, e1, e2⟩ := this.get (by intro h; cases h) (by intro w h; cases h)
        simp only [RelC] at e1
        subst e1
        rw [isVal_one e2 rfl]
        exact a6
      · rename_i k hi
        injection ho with ho
        subst ho
        exact ⟨s, rfl, rfl, h, Ext.refl B s, hT, fun k hk => .inl hk⟩
      · cases ho
    · split at ho
      · exact ownVar_ok h hz hT ho
      · cases ho
    · exact ownVar_ok h hz hT ho
theorem ownAll_ok {B : Nat} {tmps : Array Value} : ∀ {os : List (Place × U)} {s : S4} {T : TF} {r : List Nat × TF × HF}, MemOk B s → TRel s T tmps → ownAll os T s.H = some r → ∃ t, t.H = r.2.2 ∧ t.W = s.W ∧ MemOk B t ∧ Ext B s t ∧ TRel t r.2.1 tmps ∧ ∀ k, t.U k → s.U k ∨ s.H.nx ≤ k
  | [], s, T, r, h, hT, ho => by
    simp only [ownAll] at ho
    injection ho with ho
    subst ho
    exact ⟨s, rfl, rfl, h, Ext.refl B s, hT, fun k hk => .inl hk⟩
  | (o, u) :: os, s, T, r, h, hT, ho => by
    simp only [ownAll] at ho
    split at ho
    · rename_i k T' H' h1
      split at ho
      · rename_i ks T'' H'' h2
        injection ho with ho
        subst ho
        obtain ⟨t, a1, a2, a3, a4, a5, a6⟩ := own_ok h hT h1
        simp only at a1 a5
        rw [← a1] at h2
        obtain ⟨t2, b1, b2, b3, b4, b5, b6⟩ := ownAll_ok a3 a5 h2
        exact ⟨t2, b1, b2.trans a2, b3, a4.trans b4, b5, fun k hk => (b6 k hk).elim (a6 k) (fun e => .inr (Nat.le_trans a4.nx e))⟩
      · cases ho
    · cases ho

/-! ### what is told as plain data -/
theorem flat_val {B : Nat} {s : S4} (h : MemOk B s) {u : U} {v : V} {x : u.T} (hd : deepen s.H u v = some x) {y : Value} (hy : RelV s v y) :
    ∃ t : S4, t.H = s.H.freeze v.rows ∧ t.W = s.W ∧ t.U = s.U ∧ MemOk B t ∧ Ext B s t ∧ RelV t (.d u x) y := by
  obtain ⟨t, e1, e2, e3, e4, e5, e6, e7⟩ := freeze_ok (B := B) v.rows h
  obtain ⟨cs, g1, g2, _⟩ := deepen_cells h hd hy
  refine ⟨t, e1, e2, e3, e5, e6, .inr ⟨cs, ?_, ?_⟩⟩
  · simp only [RelC]
    exact g1.mono (fun b hb => by
      rcases hb with hb | ⟨j, r', base, hj, hr', hp⟩
      · exact e6.i b hb
      · exact e7 j hj r' b base hr' hp) (fun b hb => by rw [e2])
  · simpa [V.agg, V.sk, U.sk_agg] using g2
theorem flatVar_ok {B : Nat} {s : S4} (h : MemOk B s) {u : U} {T : TF} {tmps : Array Value} (hT : TRel s T tmps) {k : Nat} {p : List Step} {r : TF × HF} (ho : flatAt.inVar u T s.H k p = some r) :
    ∃ t : S4, t.H = r.2 ∧ t.W = s.W ∧ t.U = s.U ∧ MemOk B t ∧ Ext B s t ∧ TRel t r.1 tmps := by
  unfold flatAt.inVar at ho
  split at ho
  · rename_i c hc
    split at ho
    · rename_i v hg
      split at ho
      · rename_i x hd
        split at ho
        · rename_i o hoff
          split at ho
          · rename_i c' hset
            injection ho with ho
            subst ho
            obtain ⟨t, e1, e2, e3, e4, e5, e6, e7⟩ := freeze_ok (B := B) v.rows h
            have hct : t.H.var k = some c := by rw [e1, freeze_var]; exact hc
            obtain ⟨_, _, _, cs0, ty0, hb0, hr0⟩ := h.var k c hc
            obtain ⟨g1, g2⟩ := get_rel hg hr0 hoff
            have hdd := deepen_rel h hd g2
            obtain ⟨_, _, _, cs, ty, hb, hr⟩ := e5.var k c hct
            rw [e4, e2, hb0] at hb
            injection hb with hb
            injection hb with hb hb2
            subst hb
            have hx : RelC t (.d u x) ((cs0.toList.drop o).take v.size) := by
              simp only [RelC]
              exact hdd.mono (fun b hb => by
                rcases hb with hb | ⟨j, r', base, hj, hr', hp⟩
                · exact e6.i b hb
                · exact e7 j hj r' b base hr' hp) (fun b hb => by rw [e2])
            have hsk := deepen_sk hd
            have hdc : dcode c.sk p = some (V.d u x).sk := by rw [g1, hsk]; rfl
            obtain ⟨s1, s2⟩ := set_rel hset hr hx hoff hdc
            rw [splice_same] at s2
            have hw : WSet t.W t.W (t.ρ.var k) cs0 := by rw [e4, e2]; exact wset_refl hb0
            refine ⟨t.putVar t.W k c', ?_, e2, e3, memOk_putVar e5 hct s1 hw s2, e6.trans (ext_putVar e5 hct s1 hw), (hT.ext e6).ext (ext_putVar e5 hct s1 hw)⟩
            show t.H.setVar k c' = _
            rw [e1]
          · cases ho
        · cases ho
      · cases ho
    · cases ho
  · cases ho
theorem flat_ok {B : Nat} {s : S4} (h : MemOk B s) {o : Place} {u : U} {T : TF} {tmps : Array Value} (hT : TRel s T tmps) {r : TF × HF} (ho : flatAt o u T s.H = some r) :
    ∃ t : S4, t.H = r.2 ∧ t.W = s.W ∧ t.U = s.U ∧ MemOk B t ∧ Ext B s t ∧ TRel t r.1 tmps := by
  unfold flatAt at ho
  split at ho
  · rename_i i
    split at ho
    · rename_i x hd
      injection ho with ho
      subst ho
      obtain ⟨t, a1, a2, a3, a4, a5, a6⟩ := flat_val h hd (hT.tmp i)
      exact ⟨t, a1, a2, a3, a4, a5, trel_set (hT.ext a5) a6⟩
    · cases ho
  · split at ho
    · exact flatVar_ok h hT ho
    · cases ho
  · exact flatVar_ok h hT ho
theorem flatAll_ok {B : Nat} {tmps : Array Value} : ∀ {os : List (Place × U)} {s : S4} {T : TF} {r : TF × HF}, MemOk B s → TRel s T tmps → flatAll os T s.H = some r →
    ∃ t : S4, t.H = r.2 ∧ t.W = s.W ∧ t.U = s.U ∧ MemOk B t ∧ Ext B s t ∧ TRel t r.1 tmps
  | [], s, T, r, h, hT, ho => by
    simp only [flatAll] at ho
    injection ho with ho
    subst ho
    exact ⟨s, rfl, rfl, rfl, h, Ext.refl B s, hT⟩
  | (o, u) :: os, s, T, r, h, hT, ho => by
    simp only [flatAll] at ho
    split at ho
    · rename_i T' H' h1
      obtain ⟨t, a1, a2, a3, a4, a5, a6⟩ := flat_ok h hT h1
      simp only at a1 a6
      rw [← a1] at ho
      obtain ⟨t2, b1, b2, b3, b4, b5, b6⟩ := flatAll_ok a4 a6 ho
      exact ⟨t2, b1, b2.trans a2, b3.trans a3, b4, a5.trans b5, b6⟩
    · cases ho

/-! ### numbers turned -/
theorem join_rel {s : S4} {v w : V} {c1 c2 : List Value} (h1 : RelC s v c1) (h2 : RelC s w c2) : RelC s (V.join v w) (c1 ++ c2) := by
  unfold V.join
  split
  · simp only [RelC, RelD] at h1 h2 ⊢
    exact ⟨c1, c2, rfl, h1, h2⟩
  · simp only [RelC]
    exact ⟨c1, c2, rfl, h1, h2⟩
theorem join_sk {v w : V} : (V.join v w).sk = .cons v.sk w.sk := by
  unfold V.join
  split <;> rfl
theorem norm_sk {sub : Sub} : ∀ {v : V}, (v.norm sub).sk = v.sk
  | .d _ _ => rfl
  | .cons a b => by simp only [V.norm, join_sk, V.sk, norm_sk (v := a), norm_sk (v := b)]
  | .nil => rfl
  | .nilsl => rfl
  | .dfull _ _ => rfl
  | .row k => by simp only [V.norm]; split <;> rfl
  | .rsub k _ _ => by simp only [V.norm]; split <;> rfl
  | .pvar k _ => by simp only [V.norm]; split <;> rfl
  | .prow k _ _ => by simp only [V.norm]; split <;> rfl
  | .pdeep _ _ => rfl
  | .fn _ _ _ => rfl
  | .tup _ => rfl
  | .undef => rfl
theorem norm_agg {sub : Sub} {v : V} : (v.norm sub).agg = v.agg := by unfold V.agg; rw [norm_sk]

/-- What a turning of numbers must be. -/
structure Turn (s : S4) (sub : Sub) (H2 : HF) (pv pr : Nat → Nat) (U2 : Nat → Prop) : Prop where
  row : ∀ k k', assoc sub.row k = some k' → pr k' = k ∧ (s.U k → U2 k')
  var : ∀ k k', assoc sub.var k = some k' → pv k' = k ∧ (s.U k → U2 k')
  row2 : ∀ k' r, H2.row k' = some r → s.H.row (pr k') = some r ∧ (s.U (pr k') → U2 k')
  var2 : ∀ k' c', H2.var k' = some c' → ∃ c, s.H.var (pv k') = some c ∧ c' = c.norm sub ∧ (s.U (pv k') → U2 k')
  injr : ∀ k l r r', H2.row k = some r → H2.row l = some r' → k ≠ l → pr k ≠ pr l
  injv : ∀ k l c c', H2.var k = some c → H2.var l = some c' → k ≠ l → pv k ≠ pv l
  un : ∀ k, U2 k → k < H2.nx
def S4.turned (s : S4) (H2 : HF) (pv pr : Nat → Nat) (U2 : Nat → Prop) : S4 := { W := s.W, I := s.I, H := H2, ρ := { var := fun k => s.ρ.var (pv k), row := fun k => s.ρ.row (pr k) }, U := U2 }

section
variable {s : S4} {sub : Sub} {H2 : HF} {pv pr : Nat → Nat} {U2 : Nat → Prop} (h : Turn s sub H2 pv pr U2)
include h
mutual
theorem norm_rel : ∀ {v : V} {cs : List Value}, RelC s v cs → RelC (s.turned H2 pv pr U2) (v.norm sub) cs
  | .d u x, cs, hr => by simp only [V.norm, RelC] at hr ⊢; exact hr
  | .cons a b, cs, hr => by
    simp only [RelC] at hr
    obtain ⟨c1, c2, rfl, h1, h2⟩ := hr
    simp only [V.norm]
    exact join_rel (norm_rel h1) (norm_rel h2)
  | .nil, cs, hr => by simp only [V.norm, RelC, RelD] at hr ⊢; exact hr
  | .nilsl, cs, hr => by simp only [V.norm, RelC] at hr ⊢; exact hr
  | .dfull u xs, cs, hr => by simp only [V.norm, RelC] at hr ⊢; exact hr
  | .row k, cs, hr => by
    simp only [RelC] at hr
    obtain ⟨hu, v, rfl, h1, hr⟩ := hr
    simp only [V.norm]
    split
    · rename_i k' hk
      obtain ⟨e, hU⟩ := h.row k k' hk
      simp only [RelC]
      refine ⟨hU hu, v, rfl, h1, fun r hr' => ?_⟩
      have := (h.row2 k' r hr').1
      rw [e] at this
      show RowV s.W (s.ρ.row (pr k')) _ _ _ _
      rw [e]
      exact hr r this
    · simp only [RelC]
      exact ⟨v, rfl, h1⟩
  | .rsub k o n, cs, hr => by
    simp only [RelC] at hr
    obtain ⟨hu, v, rfl, h1, hr⟩ := hr
    simp only [V.norm]
    split
    · rename_i k' hk
      obtain ⟨e, hU⟩ := h.row k k' hk
      simp only [RelC]
      refine ⟨hU hu, v, rfl, h1, fun r hr' => ?_⟩
      have := (h.row2 k' r hr').1
      rw [e] at this
      show o + n ≤ r.xs.length ∧ RowV s.W (s.ρ.row (pr k')) _ _ _ _
      rw [e]
      exact hr r this
    · simp only [RelC]
      exact ⟨v, rfl, h1⟩
  | .pvar k p, cs, hr => by
    simp only [RelC] at hr
    obtain ⟨hu, v, rfl, h1, hr⟩ := hr
    simp only [V.norm]
    split
    · rename_i k' hk
      obtain ⟨e, hU⟩ := h.var k k' hk
      simp only [RelC]
      refine ⟨hU hu, v, rfl, h1, fun c' hc' => ?_⟩
      obtain ⟨c, hc, rfl, _⟩ := h.var2 k' c' hc'
      rw [e] at hc
      show ∃ o, (c.norm sub).sk.off p = some o ∧ v = .pointer (some ⟨s.ρ.var (pv k'), o, none⟩)
      rw [e, norm_sk]
      exact hr c hc
    · simp only [RelC]
      exact ⟨v, rfl, h1⟩
  | .prow k i p, cs, hr => by
    simp only [RelC] at hr
    obtain ⟨hu, v, rfl, h1, hr⟩ := hr
    simp only [V.norm]
    split
    · rename_i k' hk
      obtain ⟨e, hU⟩ := h.row k k' hk
      simp only [RelC]
      refine ⟨hU hu, v, rfl, h1, fun r hr' => ?_⟩
      have := (h.row2 k' r hr').1
      rw [e] at this
      show ∃ b base o, s.ρ.row (pr k') = some (b, base) ∧ _
      rw [e]
      exact hr r this
    · simp only [RelC]
      exact ⟨v, rfl, h1⟩
  | .pdeep u x, cs, hr => by simp only [V.norm, RelC] at hr ⊢; exact hr
  | .fn f a b, cs, hr => by
    simp only [V.norm, RelC] at hr ⊢
    obtain ⟨l, m, rfl, h1, h2⟩ := hr
    exact ⟨l, m, rfl, normL_rel h1, normL_rel h2⟩
  | .tup _, cs, hr => by simp only [RelC] at hr
  | .undef, cs, hr => by simp only [V.norm, RelC] at hr ⊢; exact hr
theorem normL_rel : ∀ {v : V} {l : List Value}, RelL s v l → RelL (s.turned H2 pv pr U2) (V.norm.normL sub v) l
  | .cons a b, l, hr => by
    simp only [RelL] at hr
    obtain ⟨v, r, cs, rfl, h1, h2, h3⟩ := hr
    simp only [V.norm.normL, RelL]
    exact ⟨v, r, cs, rfl, norm_rel h1, by rw [norm_agg]; exact h2, normL_rel h3⟩
  | .nil, l, hr => by simp only [RelL] at hr; simp only [V.norm.normL, RelL]; exact hr
  | .d _ _, _, hr => by simp only [RelL] at hr
  | .nilsl, _, hr => by simp only [RelL] at hr
  | .dfull _ _, _, hr => by simp only [RelL] at hr
  | .row _, _, hr => by simp only [RelL] at hr
  | .rsub _ _ _, _, hr => by simp only [RelL] at hr
  | .pvar _ _, _, hr => by simp only [RelL] at hr
  | .prow _ _ _, _, hr => by simp only [RelL] at hr
  | .pdeep _ _, _, hr => by simp only [RelL] at hr
  | .fn _ _ _, _, hr => by simp only [RelL] at hr
  | .tup _, _, hr => by simp only [RelL] at hr
  | .undef, _, hr => by simp only [RelL] at hr
end
theorem normV_rel {v : V} {x : Value} (hr : RelV s v x) : RelV (s.turned H2 pv pr U2) (v.norm sub) x := by
  cases v with
  | tup w => exact relV_undef
  | undef => exact relV_undef
  | _ =>
    obtain ⟨cs, h1, h2⟩ := hr.get (by intro h; cases h) (by intro w h; cases h)
    exact relV_of (norm_rel h h1) (by rw [norm_agg]; exact h2)
theorem memOk_turned {B : Nat} (hm : MemOk B s) : MemOk B (s.turned H2 pv pr U2) where
  ilt := hm.ilt
  bsz := hm.bsz
  un := h.un
  var := fun k c' hc' => by
    obtain ⟨c, hc, rfl, hU⟩ := h.var2 k c' hc'
    obtain ⟨h1, h2, h3, cs, t, h4, h5⟩ := hm.var _ c hc
    exact ⟨hU h1, h2, h3, cs, t, h4, norm_rel h h5⟩
  row := fun k r hr => by
    obtain ⟨hr, hU⟩ := h.row2 k r hr
    obtain ⟨h1, h2, h3⟩ := hm.row _ r hr
    exact ⟨hU h1, h2, h3⟩
  vv := fun k l c c' hkl h1 h2 => by
    obtain ⟨d, g1, _⟩ := h.var2 k c h1
    obtain ⟨d', g2, _⟩ := h.var2 l c' h2
    exact hm.vv _ _ d d' (h.injv k l c c' h1 h2 hkl) g1 g2
  rr := fun k l r r' b b0 b1 hkl h1 h2 w1 w2 p1 p2 =>
    hm.rr _ _ r r' b b0 b1 (h.injr k l r r' h1 h2 hkl) (h.row2 k r h1).1 (h.row2 l r' h2).1 w1 w2 p1 p2
  vr := fun k l c r b b0 h1 h2 w p => by
    obtain ⟨d, g1, _⟩ := h.var2 k c h1
    exact hm.vr _ _ d r b b0 g1 (h.row2 l r h2).1 w p
theorem ext_turned {B : Nat} {s0 : S4} (hx : Ext B s0 s) {n0 : Nat} (h0 : ∀ k, s0.U k → k < n0) (hnx : s0.H.nx ≤ H2.nx) (hpv : ∀ k, k < n0 → pv k = k) (hpr : ∀ k, k < n0 → pr k = k) (hU : ∀ k, k < n0 → s.U k → U2 k) : Ext B s0 (s.turned H2 pv pr U2) where
  i := hx.i
  inew := hx.inew
  w := hx.w
  below := hx.below
  u := fun k hk => hU k (h0 k hk) (hx.u k hk)
  nx := hnx
  var := fun k c' hk hc' => by
    obtain ⟨c, hc, rfl, _⟩ := h.var2 k c' hc'
    rw [hpv k (h0 k hk)] at hc
    obtain ⟨d, g1, g2, g3⟩ := hx.var k c hk hc
    refine ⟨d, g1, by rw [norm_sk]; exact g2, ?_⟩
    show s.ρ.var (pv k) = _
    rw [hpv k (h0 k hk)]
    exact g3
  row := fun k r hk hr => by
    have hr := (h.row2 k r hr).1
    rw [hpr k (h0 k hk)] at hr
    obtain ⟨d, g1, g2, g3, g4, g5⟩ := hx.row k r hk hr
    refine ⟨d, g1, g2, g3, ?_, g5⟩
    show s.ρ.row (pr k) = _
    rw [hpr k (h0 k hk)]
    exact g4
end
end Go.Proofs.YtdfhopakojmjkaaDoor.Den
