/- One operation of a region, whatever it is. -/
import Derived.Test.YtdfhopakojmjkaaDoorDenO
namespace Go.Proofs.YtdfhopakojmjkaaDoor.Den
open Go Go.RowKit
set_option linter.unusedVariables false
set_option linter.unusedSectionVars false

theorem OwnAt.to {W : World} {I J : Nat → Prop} {B : Nat} {u : U} {xs : List u.T} {v : Value} {bs : List Nat} (hJ : RU.anyD.go u = false ∨ ∀ b, I b → J b) (hn : ∀ b ∈ bs, ¬ J b) (h : OwnAt W I B u xs v bs) : OwnAt W J B u xs v bs := by
  obtain ⟨h0, pl, h1, h2, h3, h4⟩ := h
  refine ⟨h0, pl, h1, h2, h3, fun b base hp => ?_⟩
  obtain ⟨g1, g2, cur, t, g3, g4, g5⟩ := h4 b base hp
  refine ⟨g1, hn b (by rw [h2, hp]; simp), cur, t, g3, g4, fun i x hi => ?_⟩
  obtain ⟨c, hc, hcc⟩ := g5 i x hi
  rcases hJ with hJ | hJ
  · exact ⟨c, hc.noSl hJ, hcc⟩
  · exact ⟨c, hc.mono hJ (fun _ _ => rfl), hcc⟩
theorem RelR.to {W : World} {I J : Nat → Prop} {B : Nat} : ∀ {r : RU} {x : r.T} {cs : List Value} {bs : List Nat}, (r.anyD = false ∨ ∀ b, I b → J b) → (∀ b ∈ bs, ¬ J b) → RelR W I B r x cs bs → RelR W J B r x cs bs
  | .d u, x, cs, bs, hJ, hn, h => by
    rcases hJ with hJ | hJ
    · exact ⟨h.1.noSl hJ, h.2⟩
    · exact ⟨h.1.mono hJ (fun _ _ => rfl), h.2⟩
  | .own u, x, cs, bs, hJ, hn, h => by
    obtain ⟨v, rfl, h⟩ := h
    exact ⟨v, rfl, h.to hJ hn⟩
  | .nil, x, cs, bs, hJ, hn, h => h
  | .cons a b, x, cs, bs, hJ, hn, h => by
    obtain ⟨c1, c2, b1, b2, rfl, rfl, h1, h2⟩ := h
    have hJ1 : a.anyD = false ∨ ∀ b, I b → J b := hJ.imp (fun e => by simp only [RU.anyD, Bool.or_eq_false_iff] at e; exact e.1) id
    have hJ2 : b.anyD = false ∨ ∀ b, I b → J b := hJ.imp (fun e => by simp only [RU.anyD, Bool.or_eq_false_iff] at e; exact e.2) id
    exact ⟨c1, c2, b1, b2, rfl, rfl, h1.to hJ1 (fun b hb => hn b (by simp [hb])), h2.to hJ2 (fun b hb => hn b (by simp [hb]))⟩
theorem RelRs.to {W : World} {I J : Nat → Prop} {B : Nat} : ∀ {r : RU} {x : r.T} {l : List Value} {bs : List Nat}, (r.anyD = false ∨ ∀ b, I b → J b) → (∀ b ∈ bs, ¬ J b) → RelRs W I B r x l bs → RelRs W J B r x l bs
  | .d u, x, l, bs, hJ, hn, h => by simp only [RelRs] at h
  | .own u, x, l, bs, hJ, hn, h => by simp only [RelRs] at h
  | .nil, x, l, bs, hJ, hn, h => h
  | .cons a b, x, l, bs, hJ, hn, h => by
    obtain ⟨v, r, cs, b1, b2, rfl, rfl, h1, hv, h2⟩ := h
    have hJ1 : a.anyD = false ∨ ∀ b, I b → J b := hJ.imp (fun e => by simp only [RU.anyD, Bool.or_eq_false_iff] at e; exact e.1) id
    have hJ2 : b.anyD = false ∨ ∀ b, I b → J b := hJ.imp (fun e => by simp only [RU.anyD, Bool.or_eq_false_iff] at e; exact e.2) id
    exact ⟨v, r, cs, b1, b2, rfl, rfl, h1.to hJ1 (fun b hb => hn b (by simp [hb])), hv, h2.to hJ2 (fun b hb => hn b (by simp [hb]))⟩

/-- What results become. -/
structure RecvOk (B : Nat) (s : S4) (key n k' : Nat) (H' : HF) (bs : List Nat) (t : S4) : Prop where
  k : k' = key + n
  H : t.H = H'
  m : MemOk B t
  x : Ext B s t
  W : t.W = s.W
  I : t.I = s.I
  u : ∀ k, t.U k → s.U k ∨ (key ≤ k ∧ k < key + n)
  nx : t.H.nx = s.H.nx
  free : ∀ b, Free B s b → b ∉ bs → Free B t b

theorem recv_ok {B lo : Nat} : ∀ {r : RU} {x : r.T} {key : Nat} {s : S4} {cs : List Value} {bs : List Nat}, MemOk B s → RelR s.W s.I lo r x cs bs → B ≤ lo → bs.Nodup → (∀ b ∈ bs, Free B s b) → key + r.owns ≤ s.H.nx → (∀ k, key ≤ k → k < key + r.owns → ¬ s.U k) →
    ∃ t, RecvOk B s key r.owns (r.recv x key s.H).2.1 (r.recv x key s.H).2.2 bs t ∧ RelC t (r.recv x key s.H).1 cs ∧ (r.recv x key s.H).1.agg = r.agg
  | .d u, x, key, s, cs, bs, h, hr, hB, hd, hf, hk, hu => by
    refine ⟨s, ⟨rfl, rfl, h, Ext.refl B s, rfl, rfl, fun k hk => .inl hk, rfl, fun b hb _ => hb⟩, by simp only [RU.recv, RelC]; exact hr.1, ?_⟩
    simp only [RU.recv, RU.agg, V.agg, V.sk, U.sk_agg]
  | .own u, xs, key, s, cs, bs, h, hr, hB, hd, hf, hk, hu => by
    obtain ⟨v, rfl, hz, pl, h1, h2, h3, h4⟩ := hr
    have hu' : ¬ s.U key := hu key (Nat.le_refl _) (by simp [RU.owns])
    have hk' : key < s.H.nx := by simp only [RU.owns] at hk; omega
    have hp : (xs = [] ∧ pl = none) ∨ ∃ b base, pl = some (b, base) ∧ Free B s b ∧ RowAt s ⟨u, xs, true⟩ b base := by
      cases hpl : pl with
      | none => exact .inl ⟨h3 hpl, rfl⟩
      | some p =>
        obtain ⟨b, base⟩ := p
        obtain ⟨_, _, cur, t, g3, g4, g5⟩ := h4 b base hpl
        exact .inr ⟨b, base, rfl, hf b (by rw [h2, hpl]; simp), cur, t, g3, g4, g5⟩
    have m := memOk_addRow h (key := key) (pl := pl) (r := ⟨u, xs, true⟩) hu' hk' hz rfl hp
    refine ⟨s.addRow key pl ⟨u, xs, true⟩, ⟨rfl, rfl, m, ext_addRow hu', rfl, rfl, fun k hk => hk.imp id (fun e => by simp only [RU.owns]; omega), rfl, fun b hb hn => ?_⟩, ?_, rfl⟩
    · refine ⟨hb.B, hb.i, hb.var, fun k r b0 hr hw => ?_⟩
      rcases addRow_row hr with ⟨rfl, rfl⟩ | ⟨hne, hr⟩
      · intro e
        have e : pl = some (b, b0) := by simpa [S4.addRow] using e
        apply hn
        rw [h2, e]
        simp
      · intro e
        have e : s.ρ.row k = some (b, b0) := by simpa [S4.addRow, hne] using e
        exact hb.row k r b0 hr hw e
    · simp only [RU.recv, RelC]
      refine ⟨.inr rfl, v, rfl, ?_, fun r hr => ?_⟩
      · obtain ⟨A, c, rfl, _⟩ := h1
        rfl
      · rcases addRow_row hr with ⟨_, rfl⟩ | ⟨hne, _⟩
        · have : (s.addRow key pl ⟨u, xs, true⟩).ρ.row key = pl := by simp [S4.addRow]
          rw [this]
          exact h1
        · exact absurd rfl hne
  | .nil, x, key, s, cs, bs, h, hr, hB, hd, hf, hk, hu => by
    exact ⟨s, ⟨rfl, rfl, h, Ext.refl B s, rfl, rfl, fun k hk => .inl hk, rfl, fun b hb _ => hb⟩, by simp only [RU.recv, RelC]; exact hr.1, rfl⟩
  | .cons a b, x, key, s, cs, bs, h, hr, hB, hd, hf, hk, hu => by
    obtain ⟨c1, c2, b1, b2, rfl, rfl, g1, g2⟩ := hr
    simp only [RU.owns] at hk hu
    obtain ⟨hd1, hd2, hd3⟩ := List.nodup_append.1 hd
    obtain ⟨t1, r1, e1, f1⟩ := recv_ok h g1 hB hd1 (fun b hb => hf b (by simp [hb])) (by omega) (fun k h1 h2 => hu k h1 (by omega))
    have hf2 : ∀ b ∈ b2, Free B t1 b := fun b hb => r1.free b (hf b (by simp [hb])) (fun hb1 => hd3 b hb1 b hb rfl)
    have g2' : RelR t1.W t1.I lo b x.2 c2 b2 := by rw [r1.W, r1.I]; exact g2
    obtain ⟨t2, r2, e2, f2⟩ := recv_ok (key := key + a.owns) r1.m g2' hB hd2 hf2 (by rw [r1.nx]; omega) (fun k h1 h2 hk' => by
      rcases r1.u k hk' with hk' | hk'
      · exact hu k (by omega) (by omega) hk'
      · omega)
    have hH : ((RU.cons a b).recv x key s.H) = (.cons (a.recv x.1 key s.H).1 (b.recv x.2 (key + a.owns) t1.H).1, (b.recv x.2 (key + a.owns) t1.H).2.1, (b.recv x.2 (key + a.owns) t1.H).2.2) := by
      simp only [RU.recv]
      rw [← r1.k, r1.H]
    rw [hH]
    refine ⟨t2, ⟨by rw [r2.k]; simp only [RU.owns]; omega, r2.H, r2.m, r1.x.trans r2.x, r2.W.trans r1.W, r2.I.trans r1.I, fun k hk => ?_, r2.nx.trans r1.nx, fun b hb hn => ?_⟩, ?_, rfl⟩
    · simp only [RU.owns]
      rcases r2.u k hk with hk | hk
      · rcases r1.u k hk with hk | hk
        · exact .inl hk
        · exact .inr (by omega)
      · exact .inr (by omega)
    · simp only [List.mem_append, not_or] at hn
      exact r2.free b (r1.free b hb hn.1) hn.2
    · simp only [RelC]
      exact ⟨c1, c2, rfl, RelC.ext r2.x e1, e2⟩

theorem recvs_ok {B lo : Nat} : ∀ {r : RU} {x : r.T} {key : Nat} {s : S4} {l : List Value} {bs : List Nat}, MemOk B s → RelRs s.W s.I lo r x l bs → B ≤ lo → bs.Nodup → (∀ b ∈ bs, Free B s b) → key + r.owns ≤ s.H.nx → (∀ k, key ≤ k → k < key + r.owns → ¬ s.U k) →
    ∃ t, RecvOk B s key r.owns (r.recv x key s.H).2.1 (r.recv x key s.H).2.2 bs t ∧ RelVL t (r.recv x key s.H).1 l
  | .d u, x, key, s, cs, bs, h, hr, hB, hd, hf, hk, hu => by simp only [RelRs] at hr
  | .own u, xs, key, s, cs, bs, h, hr, hB, hd, hf, hk, hu => by simp only [RelRs] at hr
  | .nil, x, key, s, cs, bs, h, hr, hB, hd, hf, hk, hu =>
    ⟨s, ⟨rfl, rfl, h, Ext.refl B s, rfl, rfl, fun k hk => .inl hk, rfl, fun b hb _ => hb⟩, hr.1⟩
  | .cons a b, x, key, s, l, bs, h, hr, hB, hd, hf, hk, hu => by
    obtain ⟨v, r, cs, b1, b2, rfl, rfl, g1, hv, g2⟩ := hr
    simp only [RU.owns] at hk hu
    obtain ⟨hd1, hd2, hd3⟩ := List.nodup_append.1 hd
    obtain ⟨t1, r1, e1, f1⟩ := recv_ok h g1 hB hd1 (fun b hb => hf b (by simp [hb])) (by omega) (fun k h1 h2 => hu k h1 (by omega))
    have hf2 : ∀ b ∈ b2, Free B t1 b := fun b hb => r1.free b (hf b (by simp [hb])) (fun hb1 => hd3 b hb1 b hb rfl)
    have g2' : RelRs t1.W t1.I lo b x.2 r b2 := by rw [r1.W, r1.I]; exact g2
    obtain ⟨t2, r2, e2⟩ := recvs_ok (key := key + a.owns) r1.m g2' hB hd2 hf2 (by rw [r1.nx]; omega) (fun k h1 h2 hk' => by
      rcases r1.u k hk' with hk' | hk'
      · exact hu k (by omega) (by omega) hk'
      · omega)
    have hH : ((RU.cons a b).recv x key s.H) = (.cons (a.recv x.1 key s.H).1 (b.recv x.2 (key + a.owns) t1.H).1, (b.recv x.2 (key + a.owns) t1.H).2.1, (b.recv x.2 (key + a.owns) t1.H).2.2) := by
      simp only [RU.recv]
      rw [← r1.k, r1.H]
    rw [hH]
    refine ⟨t2, ⟨by rw [r2.k]; simp only [RU.owns]; omega, r2.H, r2.m, r1.x.trans r2.x, r2.W.trans r1.W, r2.I.trans r1.I, fun k hk => ?_, r2.nx.trans r1.nx, fun b hb hn => ?_⟩, ?_⟩
    · simp only [RU.owns]
      rcases r2.u k hk with hk | hk
      · rcases r1.u k hk with hk | hk
        · exact .inl hk
        · exact .inr (by omega)
      · exact .inr (by omega)
    · simp only [List.mem_append, not_or] at hn
      exact r2.free b (r1.free b hb hn.1) hn.2
    · exact ⟨v, r, rfl, .inr ⟨cs, RelC.ext r2.x e1, by rw [f1]; exact hv⟩, e2⟩

theorem out_rel {s : S4} {v : V} {l : List Value} (h : RelVL s v l) : RelV s (asum.outV false v) (outValue l) := by
  cases v with
  | cons a b =>
    obtain ⟨x, r, rfl, h1, h2⟩ := h
    cases b with
    | nil =>
      simp only [RelVL] at h2
      subst h2
      exact h1.toV
    | cons b c =>
      obtain ⟨y, r, rfl, h3, h4⟩ := h2
      exact ⟨_, rfl, x, _, rfl, h1, y, r, rfl, h3, h4⟩
    | _ => simp only [RelVL] at h2
  | nil =>
    simp only [RelVL] at h
    subst h
    exact ⟨[], rfl, rfl⟩
  | _ => simp only [RelVL] at h

theorem args_rel {B : Nat} {s : S4} (h : MemOk B s) {T : TF} {a : Act} (hT : TRel s T a.tmps) {J : Nat → Prop} : ∀ {ops : List Operand} {u : U} {x : u.T}, deepen s.H u (aop.listV T ops) = some x → (∀ b, Iv s (aop.listV T ops) b → J b) → RelArgs s.W J u x (ops.map a.eval)
  | [], u, x, hd, hJ => by
    simp only [aop.listV] at hd
    cases u <;> simp [deepen] at hd
    rfl
  | o :: ops, u, x, hd, hJ => by
    simp only [aop.listV] at hd hJ
    cases u with
    | cons p q =>
      simp only [deepen] at hd
      split at hd
      · rename_i y hy
        split at hd
        · rename_i z hz
          injection hd with hd
          subst hd
          obtain ⟨cs, g1, g2, _⟩ := deepen_cells h hy (evO_rel hT o)
          refine ⟨_, _, cs, rfl, g1.mono (fun b hb => hJ b ?_) (fun _ _ => rfl), g2, args_rel h hT hz (fun b hb => hJ b ?_)⟩
          · rcases hb with hb | ⟨k, r, base, hk, hr, hp⟩
            · exact .inl hb
            · exact .inr ⟨k, r, base, by simp [V.rows, hk], hr, hp⟩
          · rcases hb with hb | ⟨k, r, base, hk, hr, hp⟩
            · exact .inl hb
            · exact .inr ⟨k, r, base, by simp [V.rows, hk], hr, hp⟩
        · cases hd
      · cases hd
    | _ => simp [deepen] at hd

/-- Behind a call: what its value is. -/
def CallOk (P : Program) (B : Nat) (s : S4) (f : FuncId) (args : Array Value) (R : S4 → Value → Prop) : Prop :=
  Enters P f ∧ Calls P f args s.W fun e W' => ∃ t x, e = .returned x ∧ t.W = W' ∧ MemOk B t ∧ Ext B s t ∧ R t x

theorem asum_ok {P : Program} {f : FuncId} {sm : Sum} (hS : SemOf P f sm) {B : Nat} {s : S4} (h : MemOk B s) {key : Nat} (hu : ∀ k, key ≤ k → k < key + 16 → ¬ s.U k) (hk : key + 16 ≤ s.H.nx) {T : TF} {a : Act} (hT : TRel s T a.tmps) {args : List Operand} {v : V} {H' : HF}
    (hto : (asum sm key s.H (aop.listV T args) false).to v H') :
    CallOk P B s f (args.map a.eval).toArray fun t x => t.H = H' ∧ (∀ k, t.U k → s.U k ∨ (key ≤ k ∧ k < key + 16)) ∧ RelV t v x := by
  unfold asum at hto
  split at hto
  · cases hto
  · rename_i x hd
    split at hto
    case h_2 => cases hto
    rename_i h16
    have h16 : sm.r.owns ≤ 16 := by simpa [Nat.ble_eq] using h16
    obtain ⟨y, hy, hto⟩ := hto
    refine ⟨hS.enters, (hS.calls s.W (Iv s (aop.listV T args)) ?_ (hT.gl.mono (fun b hb => .inl hb) (fun _ _ => rfl)) x _ y (args_rel h hT hd (fun _ hb => hb)) hy).mono ?_⟩
    · rintro b (hb | ⟨k, r, base, hk, hr, hp⟩)
      · exact h.ilt b hb
      · exact h.rowlt hr hp
    · rintro e W' ⟨l, bs, I', rfl, hbl, hI', hrs, hnd⟩
      -- what is frozen
      obtain ⟨s1, f1, f2, f3, f5, f6, f7, f8⟩ : ∃ s1 : S4, s1.H = (bif sm.r.anyD then s.H.freeze (aop.listV T args).rows else s.H) ∧ s1.W = s.W ∧ s1.U = s.U ∧ MemOk B s1 ∧ Ext B s s1 ∧ s1.H.nx = s.H.nx ∧
          (sm.r.anyD = false ∨ ∀ b, Iv s (aop.listV T args) b → s1.I b) := by
        cases hany : sm.r.anyD with
        | false => exact ⟨s, rfl, rfl, rfl, h, Ext.refl B s, rfl, .inl rfl⟩
        | true =>
          obtain ⟨t1, g1, g2, g3, g4, g5, g6, g7⟩ := freeze_ok (aop.listV T args).rows h
          refine ⟨t1, g1, g2, g3, g5, g6, by rw [g1, freeze_nx], .inr ?_⟩
          rintro b (hb | ⟨k, r, base, hk, hr, hp⟩)
          · exact g6.i b hb
          · exact g7 k hk r b base hr hp
      rw [← f2] at hbl
      obtain ⟨m2, x2⟩ := afterCall_ok f5 hbl (fun b hb => (hI' b hb).2)
      have hlo : ∀ b ∈ bs, s.W.heap.size ≤ b ∧ ¬ I' b := by
        have : ∀ {r : RU} {x : r.T} {l : List Value} {bs : List Nat}, RelRs W' I' s.W.heap.size r x l bs → ∀ b ∈ bs, s.W.heap.size ≤ b ∧ ¬ I' b := by
          have inner : ∀ {r : RU} {x : r.T} {l : List Value} {bs : List Nat}, RelR W' I' s.W.heap.size r x l bs → ∀ b ∈ bs, s.W.heap.size ≤ b ∧ ¬ I' b := by
            intro r
            induction r with
            | d u => intro x l bs h b hb; rw [h.2] at hb; cases hb
            | own u =>
              intro x l bs h b hb
              obtain ⟨v, _, _, pl, _, h2, _, h4⟩ := h
              rw [h2] at hb
              cases pl with
              | none => simp at hb
              | some p =>
                obtain ⟨b', base⟩ := p
                simp at hb
                subst hb
                obtain ⟨g1, g2, _⟩ := h4 b base rfl
                exact ⟨g1, g2⟩
            | nil => intro x l bs h b hb; rw [h.2] at hb; cases hb
            | cons p q ihp ihq =>
              intro x l bs h b hb
              obtain ⟨c1, c2, b1, b2, _, rfl, g1, g2⟩ := h
              rcases List.mem_append.1 hb with hb | hb
              · exact ihp g1 b hb
              · exact ihq g2 b hb
          intro r
          induction r with
          | d u => intro x l bs h; simp only [RelRs] at h
          | own u => intro x l bs h; simp only [RelRs] at h
          | nil => intro x l bs h b hb; rw [h.2] at hb; cases hb
          | cons p q ihp ihq =>
            intro x l bs h b hb
            obtain ⟨v, r, cs, b1, b2, _, rfl, g1, _, g2⟩ := h
            rcases List.mem_append.1 hb with hb | hb
            · exact inner g1 b hb
            · exact ihq g2 b hb
        exact this hrs
      have hnI : ∀ b ∈ bs, ¬ (s1.afterCall W' I').I b := by
        rintro b hb (h1 | ⟨h1, _⟩)
        · exact Nat.not_le_of_lt (f5.ilt b h1) (by rw [f2]; exact (hlo b hb).1)
        · exact (hlo b hb).2 h1
      have hrs2 : RelRs (s1.afterCall W' I').W (s1.afterCall W' I').I s.W.heap.size sm.r y l bs := hrs.to (f8.imp id (fun hf b hb => by
        rcases (hI' b hb).1 with h1 | h1
        · exact .inl (hf b h1)
        · exact .inr ⟨hb, by rw [f2]; exact h1⟩)) hnI
      have hfree : ∀ b ∈ bs, Free B (s1.afterCall W' I') b := fun b hb => ⟨Nat.le_trans h.bsz (hlo b hb).1, hnI b hb,
        fun k c hc e => by
          have := f5.varlt (k := k) (c := c) hc
          rw [f2] at this
          have h1 := (hlo b hb).1
          have e : s1.ρ.var k = b := e
          omega,
        fun k r b0 hr _ hp => by
          have := f5.rowlt (k := k) (r := r) hr hp
          rw [f2] at this
          have h1 := (hlo b hb).1
          omega⟩
      obtain ⟨t, r, hv⟩ := recvs_ok (key := key) m2 hrs2 h.bsz hnd hfree (by show key + sm.r.owns ≤ s1.H.nx; rw [f7]; omega) (fun k h1 h2 => by show ¬ s1.U k; rw [f3]; exact hu k h1 (by omega))
      have hH : (s1.afterCall W' I').H = (bif sm.r.anyD then s.H.freeze (aop.listV T args).rows else s.H) := f1
      rw [hH] at r hv
      obtain ⟨rfl, rfl⟩ := hto
      refine ⟨t, _, rfl, r.W, r.m, (f6.trans x2).trans r.x, r.H, fun k hk => ?_, out_rel hv⟩
      rcases r.u k hk with hk | hk
      · exact .inl (by rw [← f3]; exact hk)
      · exact .inr (by omega)
end Go.Proofs.YtdfhopakojmjkaaDoor.Den
