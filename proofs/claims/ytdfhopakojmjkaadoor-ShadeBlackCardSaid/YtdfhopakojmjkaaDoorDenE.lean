/- The machine's runs of single operations, beside the evaluator's: loads, stores, new memory. -/
import Derived.Test.YtdfhopakojmjkaaDoorDenD
namespace Go.Proofs.YtdfhopakojmjkaaDoor.Den
open Go Go.RowKit
set_option linter.unusedVariables false

theorem addr_add (b o i : Nat) : (⟨b, o, none⟩ : Addr).add i = ⟨b, o + i, none⟩ := by
  unfold Addr.add
  split
  · rename_i h; subst h; rfl
  · rfl
theorem cell_at {W : World} {b : Nat} {cs : Array Value} {t : TypeId} {f : Nat × Nat} (h : W.heap[b]? = some (.cells cs t f)) (o : Nat) : W.cell? ⟨b, o, none⟩ = cs[o]? := by
  simp [World.cell?, h]
theorem frozen_at {W : World} {b : Nat} {cs : Array Value} {t : TypeId} (h : W.heap[b]? = some (.cells cs t (0, 0))) (o : Nat) : W.frozen? ⟨b, o, none⟩ = false := by
  simp [World.frozen?, h]
theorem wset_refl {W : World} {b : Nat} {cs : Array Value} {t : TypeId} (h : W.heap[b]? = some (.cells cs t (0, 0))) : WSet W W b cs :=
  ⟨rfl, rfl, rfl, rfl, fun _ _ => rfl, cs, t, h, h, rfl⟩
theorem WSet.trans {W1 W2 W3 : World} {b : Nat} {c2 c3 : Array Value} (h : WSet W1 W2 b c2) (k : WSet W2 W3 b c3) : WSet W1 W3 b c3 := by
  obtain ⟨c1, t, h1, h2, h3⟩ := h.here
  obtain ⟨c2', t', k1, k2, k3⟩ := k.here
  rw [h2] at k1
  injection k1 with k1
  injection k1 with k1 k1' _
  subst k1 k1'
  exact ⟨k.os.trans h.os, k.tape.trans h.tape, k.output.trans h.output, k.size.trans h.size, fun i hi => (k.other i hi).trans (h.other i hi), c1, t, h1, k2, k3.trans h3⟩
theorem wset_setCell {W : World} {b : Nat} {cs : Array Value} {t : TypeId} (h : W.heap[b]? = some (.cells cs t (0, 0))) (o : Nat) (v : Value) : WSet W (W.setCell ⟨b, o, none⟩ v) b (cs.setIfInBounds o v) := by
  refine ⟨rfl, rfl, rfl, by simp [World.setCell], fun i hi => Below.heap_setCell W _ v i hi, cs, t, h, ?_, by simp⟩
  simp [World.setCell, Array.getElem?_modify, h]

theorem run_storeCells_at (P : Program) {b o : Nat} {t : TypeId} : ∀ (vs : List Value) (i : Nat) (W : World) (cs : Array Value), W.heap[b]? = some (.cells cs t (0, 0)) → o + i + vs.length ≤ cs.size → (∀ v ∈ vs, v.oneCell' = true) →
    ∃ W', (storeCells ⟨b, o, none⟩ vs i).run P W = .ok () W' ∧ WSet W W' b (splice cs.toList (o + i) vs).toArray := by
  intro vs
  induction vs with
  | nil =>
    intro i W cs h hl h1
    refine ⟨W, rfl, ?_⟩
    have : (splice cs.toList (o + i) []).toArray = cs := by simp [splice]
    rw [this]
    exact wset_refl h
  | cons v vs ih =>
    intro i W cs h hl h1
    have hin : o + i < cs.size := by simp at hl; omega
    have hs : (store ((⟨b, o, none⟩ : Addr).add i) v).run P W = .ok () (W.setCell ⟨b, o + i, none⟩ v) := by
      rw [addr_add, run_store P W _ v .plain (h1 v (by simp)), cell_at h, Array.getElem?_eq_getElem hin]
      simp [frozen_at h]
    have hw := wset_setCell h (o + i) v
    obtain ⟨c0, t0, g1, g2, g3⟩ := hw.here
    rw [h] at g1
    injection g1 with g1
    injection g1 with g1 g1' _
    subst g1 g1'
    obtain ⟨W', hr, hw'⟩ := ih (i + 1) (W.setCell ⟨b, o + i, none⟩ v) (cs.setIfInBounds (o + i) v) g2 (by simp at hl ⊢; omega) (fun u hu => h1 u (by simp [hu]))
    refine ⟨W', ?_, ?_⟩
    · simp only [storeCells, Sem.run_bind, hs, Result.andThen_ok]
      exact hr
    · have e : splice (cs.setIfInBounds (o + i) v).toList (o + (i + 1)) vs = splice cs.toList (o + i) (v :: vs) := by
        apply List.ext_getElem?
        intro j
        simp at hl
        rw [splice_get (by simp; omega), splice_get (by simp; omega)]
        by_cases hj : j = o + i
        · subst hj
          rw [if_neg (by omega), if_pos (by simp)]
          simp [hin]
        · by_cases hj2 : o + (i + 1) ≤ j ∧ j < o + (i + 1) + vs.length
          · rw [if_pos hj2, if_pos (by simp; omega)]
            obtain ⟨q, hq⟩ : ∃ q, j - (o + i) = q + 1 := ⟨j - (o + i) - 1, by omega⟩
            rw [hq, List.getElem?_cons_succ]
            congr 1
            omega
          · rw [if_neg hj2, if_neg (by simp; omega)]
            simp only [Array.toList_setIfInBounds]
            rw [List.getElem?_set_ne (by omega)]
      rw [e] at hw'
      exact hw.trans hw'

theorem run_loadCellsFrom (P : Program) (W : World) (a : Addr) : ∀ (vs : List Value) (i : Nat) (acc : Array Value), (∀ j v, vs[j]? = some v → W.cell? (a.add (i + j)) = some v) →
    (loadCellsFrom a i vs.length acc).run P W = .ok (acc ++ vs.toArray) W := by
  intro vs
  induction vs with
  | nil => intro i acc h; simp [loadCellsFrom]
  | cons v vs ih =>
    intro i acc h
    have h0 := h 0 v rfl
    rw [Nat.add_zero] at h0
    simp only [List.length_cons, loadCellsFrom, Sem.run_bind, run_load, h0, Result.andThen_ok]
    rw [ih (i + 1) (acc.push v) (fun j u hj => by
      have := h (j + 1) u (by simpa using hj)
      rw [show i + 1 + j = i + (j + 1) by omega]; exact this)]
    simp
theorem run_loadCells (P : Program) (W : World) (a : Addr) (vs : List Value) (h : ∀ j v, vs[j]? = some v → W.cell? (a.add j) = some v) : (loadCells a vs.length).run P W = .ok vs.toArray W := by
  unfold loadCells
  rw [run_loadCellsFrom P W a vs 0 #[] (fun j v hj => by rw [Nat.zero_add]; exact h j v hj)]
  simp

/-! ### what the evaluator takes from the types' table -/
def aggDesc : TypeDesc → Bool
  | .struct _ => true
  | .array _ _ => true
  | _ => false
structure TyFact (P : Program) (t n : Nat) (g : Bool) : Prop where
  info : ∃ i, P.info? t = some i ∧ i.size = n
  und : ∃ d, P.underlying t = some d ∧ aggDesc d = g
structure ElemFact (P : Program) (e : Nat) (u : U) (bytes : Nat) : Prop where
  und : ∃ d, P.underlying e = some d ∧ aggDesc d = u.agg
  info : ∃ i z, P.info? e = some i ∧ i.size = u.size ∧ i.bytes = bytes ∧ i.zero = some z ∧ z.cells.toList = zcells u
structure TEok (P : Program) (E : TE) : Prop where
  mixed : P.follows .mixedOrders = true
  str : ∀ t, E.str t = true → P.underlying t = some .string
  sz : ∀ t n g, E.sz t = some (n, g) → TyFact P t n g ∧ (g = false → n = 1)
  zero : ∀ t u, E.ty t = some u → ∃ i z, P.info? t = some i ∧ i.zero = some z ∧ z.cells.toList = zcells u
  bool : ∀ t, E.ty t = some .bool → P.underlying t = some .bool
  int : ∀ t k, E.ty t = some (.int k) → P.underlying t = some (.int k)
  elem : ∀ t u, E.elem t = some u → ∃ e, P.underlying t = some (.slice e) ∧ ElemFact P e u (E.ebytes t)
  aelem : ∀ t n u, E.aelem t = some (n, u) → ∃ e b, P.underlying t = some (.array n e) ∧ ElemFact P e u b
  foff : ∀ t f o, E.foff t f = some o → ∃ fs fd, P.underlying t = some (.struct fs) ∧ fs[f]? = some fd ∧ fd.offset = o ∧ ∃ i, P.info? fd.type = some i ∧ i.size ≠ 0
  build : ∀ t a b, E.ty t = some (.cons a b) → ∃ (fs : Array Field) (places : List (Nat × Nat)), P.underlying t = some (.struct fs) ∧ fs.toList.mapM (fun f => (P.info? f.type).map fun i => (f.offset, i.size)) = some places ∧
    ∀ f o, (U.cons a b).off [.fld f] = some o → ∃ u, dcode (.cons a b) [.fld f] = some u ∧ places.toArray[f]? = some (o, u.size)
  unit : ∀ t, E.ty t = some .nil → ∃ (fs : Array Field) (places : List (Nat × Nat)), P.underlying t = some (.struct fs) ∧ fs.toList.mapM (fun f => (P.info? f.type).map fun i => (f.offset, i.size)) = some places
  eq : ∀ t u, E.ty t = some u → u.eqok = true → u.agg = true → P.eqGuardType P.depth t = false ∧
    ∀ (W : World) (I I' : Nat → Prop) (x y : u.T) (xs ys : List Value), RelD W I u x xs → RelD W I' u y ys → (Op.equalIn 10000 t (.agg xs.toArray) (.agg ys.toArray)).run P W = .ok (u.eq x y) W

/-- What comes of an operation, one way through its tests. -/
def Res.to : Res → V → HF → Prop
  | .fail, _, _ => False
  | .ok v H, v', H' => v = v' ∧ H = H'
  | .ite c a b, v', H' => (c = true ∧ a.to v' H') ∨ (c = false ∧ b.to v' H')
  | .opt r o k, v', H' => ∃ x, o = some x ∧ (k x).to v' H'
theorem Res.run_to {β : Type} {K : V → HF → Option β} {r : β} : ∀ {x : Res}, x.run K = some r → ∃ v H, x.to v H ∧ K v H = some r := by
  intro x
  induction x with
  | fail => intro h; cases h
  | ok v H => intro h; exact ⟨v, H, ⟨rfl, rfl⟩, h⟩
  | ite c a b iha ihb =>
    intro h
    cases c with
    | true =>
      obtain ⟨v, H, h1, h2⟩ := iha h
      exact ⟨v, H, .inl ⟨rfl, h1⟩, h2⟩
    | false =>
      obtain ⟨v, H, h1, h2⟩ := ihb h
      exact ⟨v, H, .inr ⟨rfl, h1⟩, h2⟩
  | opt s o k ih =>
    intro h
    simp only [Res.run] at h
    obtain ⟨y, hy, h⟩ := Option.bind_eq_some_iff.1 h
    obtain ⟨v, H, h1, h2⟩ := ih y h
    exact ⟨v, H, ⟨y, hy, h1⟩, h2⟩

/-- An operation is done: the state behind it, and its value. -/
def OpOk (B : Nat) (s : S4) (key : Nat) (run : Result Next) (v : V) (H' : HF) : Prop :=
  ∃ t : S4, t.H = H' ∧ MemOk B t ∧ Ext B s t ∧ (∀ k, t.U k → s.U k ∨ (key ≤ k ∧ k < key + 16)) ∧
    ((∃ x, run = .ok (.value x) t.W ∧ RelV t v x) ∨ (run = .ok .skip t.W ∧ v = .undef))
theorem OpOk.same {B : Nat} {s : S4} (h : MemOk B s) {key : Nat} {run : Result Next} {v : V} {x : Value} (hr : run = .ok (.value x) s.W) (hv : RelV s v x) : OpOk B s key run v s.H :=
  ⟨s, rfl, h, Ext.refl B s, fun k hk => .inl hk, .inl ⟨x, hr, hv⟩⟩

theorem relV_of {s : S4} {v : V} {x : Value} {cs : List Value} (h : RelC s v cs) (hx : IsVal v.agg cs x) : RelV s v x := by
  cases v with
  | tup vs => simp only [RelC] at h
  | _ => exact .inr ⟨cs, h, hx⟩
theorem relV_undef {s : S4} {x : Value} : RelV s .undef x := .inl rfl
theorem relV_d {s : S4} {u : U} {x : u.T} {v : Value} {cs : List Value} (h : RelD s.W s.I u x cs) (hv : IsVal u.agg cs v) : RelV s (.d u x) v :=
  .inr ⟨cs, by simp only [RelC]; exact h, by simpa [V.agg, V.sk, U.sk_agg] using hv⟩
theorem RelV.get {s : S4} {v : V} {x : Value} (h : RelV s v x) (h1 : v ≠ .undef) (h2 : ∀ w, v ≠ .tup w) : ∃ cs, RelC s v cs ∧ IsVal v.agg cs x := by
  cases v with
  | tup vs => exact absurd rfl (h2 vs)
  | undef => exact absurd rfl h1
  | _ =>
    rcases h with h | h
    · cases h
    · exact h
theorem relV_int {s : S4} {k : IntKind} {n : Int} {x : Value} (h : RelV s (.d (.int k) n) x) : x = .int k n := by
  obtain ⟨cs, h1, h2⟩ := h.get (by intro h; cases h) (by intro w h; cases h)
  simp only [RelC, RelD] at h1
  subst h1
  simp [IsVal, V.agg, V.sk, U.sk, U.agg] at h2
  exact h2.symm
theorem relV_bool {s : S4} {b : Bool} {x : Value} (h : RelV s (.d .bool b) x) : x = .bool b := by
  obtain ⟨cs, h1, h2⟩ := h.get (by intro h; cases h) (by intro w h; cases h)
  simp only [RelC, RelD] at h1
  subst h1
  simp [IsVal, V.agg, V.sk, U.sk, U.agg] at h2
  exact h2.symm
theorem int_relV {s : S4} {k : IntKind} {n : Int} : RelV s (.d (.int k) n) (.int k n) := relV_d (cs := [.int k n]) rfl rfl
theorem bool_relV {s : S4} {b : Bool} : RelV s (.d .bool b) (.bool b) := relV_d (cs := [.bool b]) rfl rfl

theorem evO_rel {s : S4} {T : TF} {a : Act} (hT : TRel s T a.tmps) : ∀ x : Operand, RelV s (evO T x) (a.eval x)
  | .tmp t => hT.tmp t
  | .const v => by
    show RelV s (constV v) v
    unfold constV
    split
    · exact int_relV
    · exact bool_relV
    · exact .inr ⟨[.slice none 0 0], rfl, rfl⟩
    · exact .inl rfl
  | .func f => .inr ⟨[.func (.func f) #[] #[]], by simp only [evO, RelC, RelL]; exact ⟨[], [], rfl, rfl, rfl⟩, rfl⟩
  | .global g => by
    show RelV s (globV (globs g)) (.pointer (some ⟨g, 0, none⟩))
    cases hg : globs g with
    | none => exact .inl rfl
    | some q =>
      obtain ⟨u, x⟩ := q
      obtain ⟨h1, c, h2, h3⟩ := hT.gl g u x hg
      exact .inr ⟨[.pointer (some ⟨g, 0, none⟩)], by simp only [globV, RelC]; exact ⟨_, c, rfl, h1, h2, h3⟩, rfl⟩

/-! ### load, store -/
theorem isVal_cells {g : Bool} {cs : List Value} {v : Value} (h : IsVal g cs v) (h1 : ∀ w ∈ cs, w.oneCell' = true) : v.cells = cs.toArray := by
  cases g with
  | true => simp only [IsVal] at h; subst h; rfl
  | false =>
    simp only [IsVal] at h
    subst h
    have := h1 v (by simp)
    cases v <;> simp [Value.oneCell'] at this <;> rfl

theorem run_isAgg {P : Program} {t n : Nat} {g : Bool} (h : TyFact P t n g) (W : World) : (isAgg t).run P W = .ok g W := by
  obtain ⟨d, hd, hg⟩ := h.und
  unfold isAgg underlying
  simp only [Sem.run_bind, run_program, Result.andThen_ok, hd, Sem.run_pure]
  cases d <;> simp [aggDesc] at hg <;> subst hg <;> rfl
theorem run_sizeOf {P : Program} {t n : Nat} {g : Bool} (h : TyFact P t n g) (W : World) : (sizeOf t).run P W = .ok n W := by
  obtain ⟨i, hi, hn⟩ := h.info
  simp [sizeOf, typeInfo, hi, hn]
theorem run_loadVar {P : Program} {t n : Nat} {g : Bool} (h : TyFact P t n g) (hg : g = false → n = 1) (W : World) (a : Addr) (cs : List Value) (hn : cs.length = n) (hc : ∀ j v, cs[j]? = some v → W.cell? (a.add j) = some v) :
    ∃ v, (loadVar t a).run P W = .ok v W ∧ IsVal g cs v := by
  unfold loadVar
  simp only [Sem.run_bind, run_isAgg h, Result.andThen_ok]
  cases g with
  | true =>
    simp only [if_true, Sem.run_bind, run_sizeOf h, Result.andThen_ok]
    rw [← hn, run_loadCells P W a cs hc]
    exact ⟨_, rfl, rfl⟩
  | false =>
    have h1 := hg rfl
    obtain ⟨v, rfl⟩ : ∃ v, cs = [v] := by
      match cs, hn with
      | [v], _ => exact ⟨v, rfl⟩
      | [], hn => simp at hn; omega
      | _ :: _ :: _, hn => simp at hn; omega
    have h0 := hc 0 v rfl
    rw [show a.add 0 = a from rfl] at h0
    refine ⟨v, ?_, rfl⟩
    simp [h0]
theorem run_storeVar {P : Program} {t n : Nat} {g : Bool} (h : TyFact P t n g) {b o : Nat} {cs : Array Value} {t' : TypeId} {W : World} (hb : W.heap[b]? = some (.cells cs t' (0, 0))) {v : Value} {vs : List Value} {g' : Bool} (hv : IsVal g' vs v)
    (h1 : ∀ w ∈ vs, w.oneCell' = true) (hn : vs.length = n) (ho : o + n ≤ cs.size) : ∃ W', (storeVar t ⟨b, o, none⟩ v).run P W = .ok () W' ∧ WSet W W' b (splice cs.toList o vs).toArray := by
  have hc := isVal_cells hv h1
  obtain ⟨W', hr, hw⟩ := run_storeCells_at P (o := o) vs 0 W cs hb (by simpa [hn] using ho) h1
  refine ⟨W', ?_, by simpa using hw⟩
  unfold storeVar
  simp only [Sem.run_bind, run_sizeOf h, Result.andThen_ok, hc]
  rw [if_neg (by simp [hn])]
  simpa using hr
end Go.Proofs.YtdfhopakojmjkaaDoor.Den
