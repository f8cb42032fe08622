/- Pure laws: what marking keeps, and how long it goes on. -/
import Derived.Test.YtdiogegolnoeoaaDoorDenVd
namespace Go.Proofs.YtdiogegolnoeoaaDoor.Den
open Go
set_option linter.unusedVariables false
set_option linter.unusedSimpArgs false
set_option maxRecDepth 100000

theorem bk_pn1 {h : Heap} (f : FormP h) (b a : Int) : bk (pn h (fun x => b == x)) a = true ↔ okA h a = true ∧ (b = a ∨ bk h a = true) := by
  rw [bk_pn f, Bool.and_eq_true, Bool.or_eq_true, beq_iff_eq]
  exact Iff.rfl
theorem Shd.paint {h h' : Heap} {g g' : Grey} {v : Val} {w : Bool} (s : Shd h g v h' g' w) : ∃ T, h' = pn h T := by
  cases s with
  | none _ => exact ⟨fun _ => false, pn_none.symm⟩
  | push _ _ _ _ _ => exact ⟨_, rfl⟩
  | full _ _ _ => exact ⟨_, rfl⟩
structure ShdF (h : Heap) (g : Grey) (v : Val) (h' : Heap) (g' : Grey) (w : Bool) : Prop where
  up : ∀ a, bk h a = true → bk h' a = true
  new : ∀ a, bk h' a = true → bk h a = true ∨ (v.1 = 2 ∧ v.2.1 = a ∧ okA h a = true ∧ (a ∈ g'.2.1 ∨ w = true))
  now : v.1 = 2 → okA h v.2.1 = true → bk h' v.2.1 = true
  iu : ∀ a, a ∈ g.2.1 → a ∈ g'.2.1
  inw : ∀ a, a ∈ g'.2.1 → a ∈ g.2.1 ∨ (v.1 = 2 ∧ v.2.1 = a ∧ okA h a = true)
  gr : GreyP g → GreyP g'
theorem Shd.facts {h h' : Heap} (f : FormP h) {g g' : Grey} {v : Val} {w : Bool} (s : Shd h g v h' g' w) : ShdF h g v h' g' w := by
  cases s with
  | none h1 => exact ⟨fun _ h => h, fun _ h => .inl h, h1, fun _ h => h, fun _ h => .inl h, fun h => h⟩
  | push h1 h2 h3 h4 h5 =>
    refine ⟨fun a ha => (bk_pn1 f _ _).2 ⟨bk_ok ha, .inr ha⟩, fun a ha => ?_, fun _ _ => (bk_pn1 f _ _).2 ⟨h2, .inl rfl⟩, fun a ha => List.mem_append_left _ ha, fun a ha => ?_, fun p => ⟨p.r0, p.r16, ?_⟩⟩
    · obtain ⟨q1, q2 | q2⟩ := (bk_pn1 f _ _).1 ha
      · exact .inr ⟨h1, q2, q1, .inl (by rw [← q2]; exact List.mem_append_right _ (List.mem_singleton.2 rfl))⟩
      · exact .inl q2
    · rcases List.mem_append.1 ha with ha | ha
      · exact .inl ha
      · have ha := List.mem_singleton.1 ha
        exact .inr ⟨h1, ha.symm, by rw [ha]; exact h2⟩
    · show ((g.2.1 ++ [v.2.1]).length : Int) ≤ g.1
      rw [List.length_append, List.length_singleton]
      omega
  | full h1 h2 h3 =>
    refine ⟨fun a ha => (bk_pn1 f _ _).2 ⟨bk_ok ha, .inr ha⟩, fun a ha => ?_, fun _ _ => (bk_pn1 f _ _).2 ⟨h2, .inl rfl⟩, fun _ h => h, fun _ h => .inl h, fun h => h⟩
    obtain ⟨q1, q2 | q2⟩ := (bk_pn1 f _ _).1 ha
    · exact .inr ⟨h1, q2, q1, .inr rfl⟩
    · exact .inl q2
theorem hand_cases (h : Heap) (g : Grey) (bs : List Grey) (rs : List Val) (c : Int) (v : Bool) (a : Int) : (okA h a = true ∧ 0 < cnt h a ∧ hand h (g, bs, rs, -1, 0, c, v, ()) a = (g, bs, rs, a, 0, c, v, ())) ∨ (¬ (okA h a = true ∧ 0 < cnt h a) ∧ hand h (g, bs, rs, -1, 0, c, v, ()) a = (g, bs, rs, -1, 0, c, v, ())) := by
  unfold hand
  by_cases hc : (og h a).2.1 = true ∧ 0 < cnt h a
  · rw [if_pos hc]; exact .inl ⟨hc.1, hc.2, rfl⟩
  · rw [if_neg hc]; exact .inr ⟨hc, rfl⟩
theorem fe_0 {h : Heap} {a i : Int} (ho : okA h a = true) (h0 : 0 ≤ i) (h1 : i < cnt h a) : fe h a i = 0 := by
  unfold fe
  rw [if_pos (show (og h a).2.1 = true from ho), if_pos ⟨h0, h1⟩]

/-! ### right -/
theorem hand_mk {h : Heap} (f : FormP h) {g : Grey} {bs : List Grey} {rs : List Val} {c : Int} {v : Bool} (a : Int) (p : MkP h (g, bs, rs, -1, 0, c, v, ())) : MkP h (hand h (g, bs, rs, -1, 0, c, v, ()) a) := by
  rcases hand_cases h g bs rs c v a with ⟨h1, h2, e⟩ | ⟨_, e⟩
  · rw [e]
    exact ⟨p.g, p.gi, p.b, p.bi, p.bl, p.rl, p.rv, p.cur, .inr (fe_0 h1 (Int.le_refl 0) h2)⟩
  · rw [e]; exact p
theorem Shd.inI {h h' : Heap} (f : FormP h) {g g' : Grey} {v : Val} {w : Bool} (s : Shd h g v h' g' w) (hi : ∀ a ∈ g.2.1, inI a) : ∀ a ∈ g'.2.1, inI a := by
  intro a ha
  rcases (s.facts f).inw a ha with h1 | ⟨_, _, h1⟩
  · exact hi a h1
  · have := og_rng f h1
    have := f.n16
    exact ⟨by omega, by omega⟩
theorem MkP.pn {h : Heap} (f : FormP h) (T : Int → Bool) {m : MarkT} (p : MkP h m) : MkP (pn h T) m :=
  ⟨p.g, p.gi, p.b, p.bi, p.bl, p.rl, p.rv, by rw [pn_len]; exact p.cur, by rw [fe_pn f]; exact p.ob⟩
theorem Stp.paint {h h' : Heap} {m m' : MarkT} (s : Stp h m h' m') : ∃ T, h' = pn h T := by
  cases s with
  | fld _ _ s => exact s.paint
  | root s => exact s.paint
  | _ => exact ⟨fun _ => false, pn_none.symm⟩
theorem Stp.mk {h h' : Heap} (f : FormP h) {m m' : MarkT} (s : Stp h m h' m') (p : MkP h m) : MkP h' m' := by
  cases s with
  | @fld g g' bs rs o i c v w h' ho he s =>
    obtain ⟨T, rfl⟩ := s.paint
    have sf := s.facts f
    have : MkP h (g', bs, rs, (if cnt h o ≤ i + 1 then -1 else o), (if cnt h o ≤ i + 1 then 0 else i + 1), c, v || w, ()) := by
      refine ⟨sf.gr p.g, s.inI f p.gi, p.b, p.bi, p.bl, p.rl, p.rv, p.cur, ?_⟩
      show ((if cnt h o ≤ i + 1 then -1 else o) = -1 ∧ (if cnt h o ≤ i + 1 then 0 else i + 1) = 0) ∨ fe h (if cnt h o ≤ i + 1 then -1 else o) (if cnt h o ≤ i + 1 then 0 else i + 1) = 0
      by_cases hc : cnt h o ≤ i + 1
      · rw [if_pos hc, if_pos hc]; exact .inl ⟨rfl, rfl⟩
      · rw [if_neg hc, if_neg hc]
        have := fe_ok he
        exact .inr (fe_0 this.1 (by omega) (by omega))
    exact this.pn f T
  | @pop r l a bs rs c v =>
    refine hand_mk f a ⟨⟨p.g.r0, p.g.r16, ?_⟩, fun x hx => p.gi x (List.mem_append_left _ hx), p.b, p.bi, p.bl, p.rl, p.rv, p.cur, p.ob⟩
    have := p.g.len
    simp only [List.length_append, List.length_singleton] at this
    show (l.length : Int) ≤ r
    omega
  | @row g xs ys r l a rs c v =>
    have hm : (r, l ++ [a], ()) ∈ xs ++ (r, l ++ [a], ()) :: ys := List.mem_append_right _ List.mem_cons_self
    have q := p.b _ hm
    have hr : ∀ x, x ∈ xs ++ (r, l, ()) :: ys → x = (r, l, ()) ∨ x ∈ xs ++ (r, l ++ [a], ()) :: ys := fun x hx => by
      rcases List.mem_append.1 hx with hx | hx
      · exact .inr (List.mem_append_left _ hx)
      · rcases List.mem_cons.1 hx with hx | hx
        · exact .inl hx
        · exact .inr (List.mem_append_right _ (List.mem_cons_of_mem _ hx))
    refine hand_mk f a ⟨p.g, p.gi, fun x hx => ?_, fun x hx => ?_, ?_, p.rl, p.rv, p.cur, p.ob⟩
    · rcases hr x hx with rfl | hx
      · refine ⟨q.r0, q.r16, ?_⟩
        have := q.len
        simp only [List.length_append, List.length_singleton] at this
        show (l.length : Int) ≤ r
        omega
      · exact p.b x hx
    · rcases hr x hx with rfl | hx
      · exact fun y hy => p.bi _ hm y (List.mem_append_left _ hy)
      · exact p.bi x hx
    · have := p.bl
      simp only [List.length_append, List.length_cons] at this ⊢
      exact this
  | @root g g' bs x rs c v w h' s =>
    obtain ⟨T, rfl⟩ := s.paint
    have hrl := p.rl
    rw [List.length_cons] at hrl
    have : MkP h (g', bs, rs, -1, 0, c, v || w, ()) := ⟨(s.facts f).gr p.g, s.inI f p.gi, p.b, p.bi, p.bl, by show rs.length ≤ 1000; omega, fun y hy => p.rv y (List.mem_cons_of_mem _ hy), p.cur, p.ob⟩
    exact this.pn f T
  | @cur g bs rs c v a hc ha hb hx =>
    have h1 := og_rng f (bk_ok hb)
    have h2 := f.len
    refine hand_mk f a ⟨p.g, p.gi, p.b, p.bi, p.bl, p.rl, p.rv, ?_, p.ob⟩
    show -1 ≤ a + 1 ∧ a + 1 ≤ (h.1.length : Int)
    omega
  | noc hc hx =>
    exact ⟨p.g, p.gi, p.b, p.bi, p.bl, p.rl, p.rv, ⟨by show (-1 : Int) ≤ -1; omega, by show (-1 : Int) ≤ (h.1.length : Int); omega⟩, p.ob⟩
  | ovr =>
    exact ⟨p.g, p.gi, p.b, p.bi, p.bl, p.rl, p.rv, ⟨by show (-1 : Int) ≤ 0; omega, by show (0 : Int) ≤ (h.1.length : Int); omega⟩, p.ob⟩
theorem mem_mid {α : Type} {xs ys : List α} {g g' x : α} (h : x ∈ xs ++ g' :: ys) : x = g' ∨ x ∈ xs ++ g :: ys := by
  rcases List.mem_append.1 h with h | h
  · exact .inr (List.mem_append_left _ h)
  · rcases List.mem_cons.1 h with h | h
    · exact .inl h
    · exact .inr (List.mem_append_right _ (List.mem_cons_of_mem _ h))
theorem mem_here {α : Type} {xs ys : List α} {g : α} : g ∈ xs ++ g :: ys := List.mem_append_right _ List.mem_cons_self
theorem nt_mk {h : Heap} (f : FormP h) {m : MarkT} {k : Nat} (hk : k < m.2.1.length) (v : Val) (p : MkP h m) : MkP (nt h m k v).1 (nt h m k v).2 := by
  obtain ⟨xs, g, ys, g', w, e1, s, e2⟩ := nt_cases f hk v
  obtain ⟨T, e⟩ := s.paint
  have hg : g ∈ m.2.1 := by rw [e1]; exact mem_here
  rw [e2, e]
  refine MkP.pn f T ⟨p.g, p.gi, fun x hx => ?_, fun x hx => ?_, ?_, p.rl, p.rv, p.cur, p.ob⟩
  · rcases mem_mid (g := g) hx with rfl | hx
    · exact (s.facts f).gr (p.b _ hg)
    · exact p.b x (by rw [e1]; exact hx)
  · rcases mem_mid (g := g) hx with rfl | hx
    · exact s.inI f (p.bi _ hg)
    · exact p.bi x (by rw [e1]; exact hx)
  · have := p.bl
    rw [e1] at this
    simp only [List.length_append, List.length_cons] at this ⊢
    exact this

/-! ### sound -/
def itm (m : MarkT) (a : Int) : Prop := a ∈ m.1.2.1 ∨ ∃ g ∈ m.2.1, a ∈ g.2.1
structure Snd (h0 : Heap) (vs : List Val) (h : Heap) (m : MarkT) : Prop where
  b : ∀ a, bk h a = true → Rch h0 vs a
  r : ∀ a, okA h0 a = true → named m.2.2.1 a = true → Rch h0 vs a
  i : ∀ a, okA h0 a = true → itm m a → Rch h0 vs a
  o : m.2.2.2.1 ≠ -1 → Rch h0 vs m.2.2.2.1
theorem Snd.hand {h0 h : Heap} (f0 : FormP h0) {S : Int → Bool} (e : h = pn h0 S) {vs : List Val} {g : Grey} {bs : List Grey} {rs : List Val} {c : Int} {v : Bool} {a : Int} (p : Snd h0 vs h (g, bs, rs, -1, 0, c, v, ())) (ha : okA h0 a = true → Rch h0 vs a) : Snd h0 vs h (hand h (g, bs, rs, -1, 0, c, v, ()) a) := by
  rcases hand_cases h g bs rs c v a with ⟨h1, h2, e'⟩ | ⟨_, e'⟩
  · rw [e']
    rw [e, okA_pn f0] at h1
    exact ⟨p.b, p.r, p.i, fun _ => ha h1⟩
  · rw [e']; exact p
theorem Stp.snd {h0 h h' : Heap} (f0 : FormP h0) (ap : apB h0 = true) {S : Int → Bool} (e : h = pn h0 S) {vs : List Val} {m m' : MarkT} (s : Stp h m h' m') (p : Snd h0 vs h m) : Snd h0 vs h' m' := by
  have f : FormP h := by rw [e]; exact f0.pn S
  have ek : ∀ a, okA h a = okA h0 a := fun a => by rw [e]; exact okA_pn f0 S a
  cases s with
  | @fld g g' bs rs o i c v w h' ho he s =>
    have sf := s.facts f
    have hv : ∀ a, (fldV h o i).1 = 2 ∧ (fldV h o i).2.1 = a ∧ okA h a = true → Rch h0 vs a := by
      rintro a ⟨h1, h2, h3⟩
      rw [e, fldV_pn f0 ap] at h1 h2
      rw [e, fe_pn f0] at he
      rw [ek] at h3
      exact .step (p.o ho) (tgt_refs f0 ⟨he, h1, h2, h3⟩) h3
    refine ⟨fun a ha => ?_, p.r, fun a ha hi => ?_, fun h1 => ?_⟩
    · rcases sf.new a ha with h1 | ⟨h1, h2, h3, -⟩
      · exact p.b a h1
      · exact hv a ⟨h1, h2, h3⟩
    · rcases hi with hi | hi
      · rcases sf.inw a hi with h1 | h1
        · exact p.i a ha (.inl h1)
        · exact hv a h1
      · exact p.i a ha (.inr hi)
    · simp only at h1 ⊢
      split at h1
      · exact absurd rfl h1
      · rename_i hc
        rw [if_neg hc]
        exact p.o ho
  | @pop r l a bs rs c v =>
    refine Snd.hand f0 e ⟨p.b, p.r, fun x hx hi => ?_, p.o⟩ fun ha => p.i a ha (.inl (List.mem_append_right _ (List.mem_singleton.2 rfl)))
    rcases hi with hi | hi
    · exact p.i x hx (.inl (List.mem_append_left _ hi))
    · exact p.i x hx (.inr hi)
  | @row g xs ys r l a rs c v =>
    refine Snd.hand f0 e ⟨p.b, p.r, fun x hx hi => ?_, p.o⟩ fun ha => p.i a ha (.inr ⟨_, mem_here, List.mem_append_right _ (List.mem_singleton.2 rfl)⟩)
    rcases hi with hi | ⟨y, hy, hi⟩
    · exact p.i x hx (.inl hi)
    · rcases mem_mid (g := (r, l ++ [a], ())) hy with rfl | hy
      · exact p.i x hx (.inr ⟨_, mem_here, List.mem_append_left _ hi⟩)
      · exact p.i x hx (.inr ⟨y, hy, hi⟩)
  | @root g g' bs x rs c v w h' s =>
    have sf := s.facts f
    have hv : ∀ a, x.1 = 2 ∧ x.2.1 = a ∧ okA h a = true → Rch h0 vs a := by
      rintro a ⟨h1, h2, h3⟩
      rw [ek] at h3
      exact p.r a h3 (by simp [named, one, h1, h2])
    refine ⟨fun a ha => ?_, fun a ha hn => p.r a ha ?_, fun a ha hi => ?_, p.o⟩
    · rcases sf.new a ha with h1 | ⟨h1, h2, h3, -⟩
      · exact p.b a h1
      · exact hv a ⟨h1, h2, h3⟩
    · simp only [named] at hn ⊢
      rw [List.any_cons, hn, Bool.or_true]
    · rcases hi with hi | hi
      · rcases sf.inw a hi with h1 | h1
        · exact p.i a ha (.inl h1)
        · exact hv a h1
      · exact p.i a ha (.inr hi)
  | @cur g bs rs c v a hc ha hb hx =>
    exact Snd.hand f0 e ⟨p.b, p.r, p.i, p.o⟩ fun _ => p.b a hb
  | noc hc hx => exact ⟨p.b, p.r, p.i, p.o⟩
  | ovr => exact ⟨p.b, p.r, p.i, p.o⟩
theorem nt_snd {h0 h : Heap} (f0 : FormP h0) {S : Int → Bool} (e : h = pn h0 S) {vs : List Val} {m : MarkT} {k : Nat} (hk : k < m.2.1.length) {v : Val} (hv : Rch h0 vs v.2.1) (p : Snd h0 vs h m) : Snd h0 vs (nt h m k v).1 (nt h m k v).2 := by
  have f : FormP h := by rw [e]; exact f0.pn S
  obtain ⟨xs, g, ys, g', w, e1, s, e2⟩ := nt_cases f hk v
  have sf := s.facts f
  rw [e2]
  refine ⟨fun a ha => ?_, p.r, fun a ha hi => ?_, p.o⟩
  · rcases sf.new a ha with h1 | ⟨h1, h2, h3, -⟩
    · exact p.b a h1
    · rw [← h2]; exact hv
  · rcases hi with hi | ⟨y, hy, hi⟩
    · exact p.i a ha (.inl hi)
    · rcases mem_mid (g := g) hy with rfl | hy
      · rcases sf.inw a hi with h1 | ⟨h1, h2, h3⟩
        · exact p.i a ha (.inr ⟨g, by rw [e1]; exact mem_here, h1⟩)
        · rw [← h2]; exact hv
      · exact p.i a ha (.inr ⟨y, by rw [e1]; exact hy, hi⟩)

/-! ### what is still to be looked at -/
def cov (m : MarkT) (a i : Int) : Prop := itm m a ∨ (m.2.2.2.1 = a ∧ m.2.2.2.2.1 ≤ i) ∨ m.2.2.2.2.2.2.1 = true ∨ (m.2.2.2.2.2.1 ≠ -1 ∧ m.2.2.2.2.2.1 ≤ a)
structure Tri (h0 : Heap) (vs : List Val) (h : Heap) (m : MarkT) : Prop where
  t : ∀ a i b, Tgt h0 a i b → bk h a = true → bk h b = true ∨ cov m a i
  r : ∀ a, okA h0 a = true → named vs a = true → bk h a = true ∨ named m.2.2.1 a = true
theorem cov_hand {h0 h : Heap} (f0 : FormP h0) {S : Int → Bool} (e : h = pn h0 S) {g : Grey} {bs : List Grey} {rs : List Val} {c : Int} {v : Bool} {a x i b : Int} (t : Tgt h0 x i b) (hc : cov (g, bs, rs, -1, 0, c, v, ()) x i ∨ x = a) : cov (hand h (g, bs, rs, -1, 0, c, v, ()) a) x i := by
  obtain ⟨ho, i0, i1⟩ := fe_ok t.fe
  have hx : 0 ≤ x := (fndB_rng (og_ok ho).1).1
  have n1 : ¬ x = -1 := by omega
  rcases hand_cases h g bs rs c v a with ⟨h1, h2, e'⟩ | ⟨h1, e'⟩
  · rw [e']
    rcases hc with (hc | ⟨hc, _⟩ | hc) | rfl
    · exact .inl hc
    · exact absurd hc.symm n1
    · exact .inr (.inr hc)
    · exact .inr (.inl ⟨rfl, i0⟩)
  · rw [e']
    rcases hc with hc | rfl
    · exact hc
    · exfalso
      apply h1
      rw [e, okA_pn f0, cnt_pnA f0 S ho]
      exact ⟨ho, by omega⟩
theorem Stp.tri {h0 h h' : Heap} (f0 : FormP h0) (ap : apB h0 = true) {S : Int → Bool} (e : h = pn h0 S) {vs : List Val} {m m' : MarkT} (s : Stp h m h' m') (p : Tri h0 vs h m) : Tri h0 vs h' m' := by
  have f : FormP h := by rw [e]; exact f0.pn S
  have ek : ∀ a, okA h a = okA h0 a := fun a => by rw [e]; exact okA_pn f0 S a
  have hpos : ∀ {a i b : Int}, Tgt h0 a i b → 0 ≤ a := fun t => (fndB_rng (og_ok (fe_ok t.fe).1).1).1
  cases s with
  | @fld g g' bs rs o i c v w h' ho he s =>
    have sf := s.facts f
    refine ⟨fun a j b t ha => ?_, fun a ha hn => (p.r a ha hn).imp (sf.up a) id⟩
    rcases sf.new a ha with h1 | ⟨h1, h2, h3, h4 | h4⟩
    · rcases p.t a j b t h1 with h2 | (h2 | h2) | ⟨h2, h3⟩ | h2 | h2
      · exact .inl (sf.up b h2)
      · exact .inr (.inl (.inl (sf.iu a h2)))
      · exact .inr (.inl (.inr h2))
      · have h2 : o = a := h2
        have h3 : i ≤ j := h3
        subst h2
        have hc : cnt h o = cnt h0 o := by rw [e]; exact cnt_pnA f0 S (fe_ok t.fe).1
        obtain ⟨q1, q2, q3⟩ := fe_ok t.fe
        by_cases hij : j = i
        · subst hij
          left
          have := sf.now
          rw [e, fldV_pn f0 ap, t.k, t.n, okA_pn f0] at this
          exact this rfl t.ok
        · right; right; left
          show (if cnt h o ≤ i + 1 then -1 else o) = o ∧ (if cnt h o ≤ i + 1 then 0 else i + 1) ≤ j
          have hn : ¬ cnt h o ≤ i + 1 := by rw [hc]; omega
          rw [if_neg hn, if_neg hn]
          exact ⟨rfl, by omega⟩
      · have h2 : v = true := h2
        right; right; right; left
        show (v || w) = true
        rw [h2]; rfl
      · exact .inr (.inr (.inr (.inr h2)))
    · exact .inr (.inl (.inl h4))
    · right; right; right; left
      show (v || w) = true
      rw [h4, Bool.or_true]
  | @pop r l a bs rs c v =>
    refine ⟨fun x j b t hx => (p.t x j b t hx).imp id fun hc => ?_, fun x hx hn => ?_⟩
    · refine cov_hand f0 e t ?_
      rcases hc with (hc | hc) | hc
      · rcases List.mem_append.1 hc with hc | hc
        · exact .inl (.inl (.inl hc))
        · exact .inr (List.mem_singleton.1 hc)
      · exact .inl (.inl (.inr hc))
      · exact .inl (.inr hc)
    · rcases hand_cases h (r, l, ()) bs rs c v a with ⟨_, _, e'⟩ | ⟨_, e'⟩ <;> rw [e'] <;> exact p.r x hx hn
  | @row g xs ys r l a rs c v =>
    refine ⟨fun x j b t hx => (p.t x j b t hx).imp id fun hc => ?_, fun x hx hn => ?_⟩
    · refine cov_hand f0 e t ?_
      rcases hc with (hc | ⟨y, hy, hc⟩) | hc
      · exact .inl (.inl (.inl hc))
      · rcases mem_mid (g := (r, l, ())) hy with rfl | hy
        · rcases List.mem_append.1 hc with hc | hc
          · exact .inl (.inl (.inr ⟨_, mem_here, hc⟩))
          · exact .inr (List.mem_singleton.1 hc)
        · exact .inl (.inl (.inr ⟨y, hy, hc⟩))
      · exact .inl (.inr hc)
    · rcases hand_cases h g (xs ++ (r, l, ()) :: ys) rs c v a with ⟨_, _, e'⟩ | ⟨_, e'⟩ <;> rw [e'] <;> exact p.r x hx hn
  | @root g g' bs x rs c v w h' s =>
    have sf := s.facts f
    refine ⟨fun a j b t ha => ?_, fun a ha hn => ?_⟩
    · rcases sf.new a ha with h1 | ⟨h1, h2, h3, h4 | h4⟩
      · rcases p.t a j b t h1 with h2 | (h2 | h2) | h2 | h2 | h2
        · exact .inl (sf.up b h2)
        · exact .inr (.inl (.inl (sf.iu a h2)))
        · exact .inr (.inl (.inr h2))
        · exact .inr (.inr (.inl h2))
        · have h2 : v = true := h2
          right; right; right; left
          show (v || w) = true
          rw [h2]; rfl
        · exact .inr (.inr (.inr (.inr h2)))
      · exact .inr (.inl (.inl h4))
      · right; right; right; left
        show (v || w) = true
        rw [h4, Bool.or_true]
    · rcases p.r a ha hn with h1 | h1
      · exact .inl (sf.up a h1)
      · have h1 : (one x a || named rs a) = true := h1
        rw [Bool.or_eq_true] at h1
        rcases h1 with h1 | h1
        · left
          unfold one at h1
          rw [Bool.and_eq_true, beq_iff_eq, beq_iff_eq] at h1
          rw [← h1.2]
          exact sf.now h1.1 (by rw [ek, h1.2]; exact ha)
        · exact .inr h1
  | @cur g bs rs c v a hc ha hb hx =>
    refine ⟨fun x j b t hxb => (p.t x j b t hxb).imp id fun hcv => ?_, fun x hx hn => ?_⟩
    · refine cov_hand f0 e t ?_
      rcases hcv with h1 | ⟨h1, h2⟩ | h1 | ⟨h1, h2⟩
      · exact .inl (.inl h1)
      · exact .inl (.inr (.inl ⟨h1, h2⟩))
      · exact .inl (.inr (.inr (.inl h1)))
      · have := hx x h2 hxb
        by_cases ex : x = a
        · exact .inr ex
        · have hp := hpos t
          have h0 := (fndB_rng (og_ok (bk_ok hb)).1).1
          refine .inl (.inr (.inr (.inr ⟨?_, ?_⟩)))
          · show a + 1 ≠ -1
            omega
          · show a + 1 ≤ x
            omega
    · rcases hand_cases h g bs rs (a + 1) v a with ⟨_, _, e'⟩ | ⟨_, e'⟩ <;> rw [e'] <;> exact p.r x hx hn
  | @noc g bs rs c v hc hx =>
    refine ⟨fun x j b t hxb => (p.t x j b t hxb).imp id fun hcv => ?_, p.r⟩
    rcases hcv with h1 | h1 | h1 | ⟨h1, h2⟩
    · exact .inl h1
    · exact .inr (.inl h1)
    · exact .inr (.inr (.inl h1))
    · rw [hx x h2] at hxb; cases hxb
  | @ovr g bs rs =>
    refine ⟨fun x j b t hxb => .inr (.inr (.inr (.inr ⟨?_, ?_⟩))), p.r⟩
    · show (0 : Int) ≠ -1
      omega
    · exact hpos t
theorem nt_tri {h0 h : Heap} (f0 : FormP h0) {S : Int → Bool} (e : h = pn h0 S) {vs : List Val} {m : MarkT} {k : Nat} (hk : k < m.2.1.length) {v : Val} (p : Tri h0 vs h m) : Tri h0 vs (nt h m k v).1 (nt h m k v).2 := by
  have f : FormP h := by rw [e]; exact f0.pn S
  obtain ⟨xs, g, ys, g', w, e1, s, e2⟩ := nt_cases f hk v
  have sf := s.facts f
  rw [e2]
  refine ⟨fun a j b t ha => ?_, fun a ha hn => (p.r a ha hn).imp (sf.up a) id⟩
  rcases sf.new a ha with h1 | ⟨h1, h2, h3, h4 | h4⟩
  · rcases p.t a j b t h1 with h2 | (h2 | ⟨y, hy, h2⟩) | h2 | h2 | h2
    · exact .inl (sf.up b h2)
    · exact .inr (.inl (.inl h2))
    · rw [e1] at hy
      rcases mem_mid (g := g') hy with rfl | hy
      · exact .inr (.inl (.inr ⟨g', mem_here, sf.iu a h2⟩))
      · exact .inr (.inl (.inr ⟨y, hy, h2⟩))
    · exact .inr (.inr (.inl h2))
    · right; right; right; left
      show (m.2.2.2.2.2.2.1 || w) = true
      rw [h2]; rfl
    · exact .inr (.inr (.inr (.inr h2)))
  · exact .inr (.inl (.inr ⟨g', mem_here, h4⟩))
  · right; right; right; left
    show (m.2.2.2.2.2.2.1 || w) = true
    rw [h4, Bool.or_true]
/-- Done: just what is reached is black. -/
theorem tri_done {h0 h : Heap} (f0 : FormP h0) {vs : List Val} {m : MarkT} (d : Dn m) (p : Tri h0 vs h m) : ∀ a, Rch h0 vs a → bk h a = true := by
  intro a r
  induction r with
  | base ho hn =>
    rcases p.r _ ho hn with h1 | h1
    · exact h1
    · rw [d.r] at h1; cases h1
  | @step a b ra hb hob ih =>
    obtain ⟨i, t⟩ := refs_tgt f0 ra.ok hb hob
    have h0 := (fndB_rng (og_ok ra.ok).1).1
    rcases p.t a i b t ih with h1 | (h1 | ⟨y, hy, h1⟩) | ⟨h1, h2⟩ | h1 | ⟨h1, _⟩
    · exact h1
    · rw [d.g] at h1; cases h1
    · rw [d.b y hy] at h1; cases h1
    · rw [d.o] at h1; omega
    · rw [d.v] at h1; cases h1
    · exact absurd d.c h1
end Go.Proofs.YtdiogegolnoeoaaDoor.Den
