/- The library, part J: a run of the model, told by an evaluator, with its proof. -/
import Derived.Test.YtdokfjkihjkcmaaGreatDoorDenD
/- The machine's runs of single operations, beside the evaluator's: loads, stores, new memory. -/
namespace Go.Proofs.YtdokfjkihjkcmaaGreatDoor.Den
open Go Go.RowKit
set_option linter.unusedVariables false
theorem addr_add (b o i : Nat) : (⟨b, o, none⟩ : Addr).add i = ⟨b, o + i, none⟩ := by
 unfold Addr.add
 split
 ·rename_i h; subst h; rfl
 ·rfl
theorem cell_at {W : World} {b : Nat} {cs : Array Value} {t : TypeId} {f : Nat × Nat} (h : W.heap[b]? = some (.cells cs t f)) (o : Nat) : W.cell? ⟨b, o, none⟩ = cs[o]? := by
 simp [World.cell?, h]
theorem frozen_at {W : World} {b : Nat} {cs : Array Value} {t : TypeId} (h : W.heap[b]? = some (.cells cs t (0, 0))) (o : Nat) : W.frozen? ⟨b, o, none⟩ = false := by
 simp [World.frozen?, h]
theorem wset_refl {W : World} {b : Nat} {cs : Array Value} {t : TypeId} (h : W.heap[b]? = some (.cells cs t (0, 0))) : WSet W W b cs :=
 ⟨rfl, rfl, rfl, rfl, fun _ _ => rfl, cs, t, h, h, rfl⟩
theorem WSet.trans {W1 W2 W3 : World} {b : Nat} {c2 c3 : Array Value} (h : WSet W1 W2 b c2) (k : WSet W2 W3 b c3) : WSet W1 W3 b c3 := by
 obtain ⟨c1, t, h1, h2, h3⟩ := h.here
 obtain ⟨c2', t', k1, k2, k3⟩ := k.here
 rw [h2] at k1
 injection k1 with k1
 injection k1 with k1 k1' _
 subst k1 k1'
 exact ⟨k.os.trans h.os, k.tape.trans h.tape, k.output.trans h.output, k.size.trans h.size, fun i hi => (k.other i hi).trans (h.other i hi), c1, t, h1, k2, k3.trans h3⟩
theorem wset_setCell {W : World} {b : Nat} {cs : Array Value} {t : TypeId} (h : W.heap[b]? = some (.cells cs t (0, 0))) (o : Nat) (v : Value) : WSet W (W.setCell ⟨b, o, none⟩ v) b (cs.setIfInBounds o v) := by
 refine ⟨rfl, rfl, rfl, by simp [World.setCell], fun i hi => Below.heap_setCell W _ v i hi, cs, t, h, ?_, by simp⟩
 simp [World.setCell, Array.getElem?_modify, h]
theorem run_storeCells_at (P : Program) {b o : Nat} {t : TypeId} : ∀ (vs : List Value) (i : Nat) (W : World) (cs : Array Value), W.heap[b]? = some (.cells cs t (0, 0)) → o + i + vs.length ≤ cs.size → (∀ v ∈ vs, v.oneCell' = true) →
  ∃ W', (storeCells ⟨b, o, none⟩ vs i).run P W = .ok () W' ∧ WSet W W' b (splice cs.toList (o + i) vs).toArray := by
 intro vs
 induction vs with
 | nil =>
  intro i W cs h hl h1
  refine ⟨W, rfl, ?_⟩
  have : (splice cs.toList (o + i) []).toArray = cs := by simp [splice]
  rw [this]
  exact wset_refl h
 | cons v vs ih =>
  intro i W cs h hl h1
  have hin : o + i < cs.size := by simp at hl; omega
  have hs : (store ((⟨b, o, none⟩ : Addr).add i) v).run P W = .ok () (W.setCell ⟨b, o + i, none⟩ v) := by
   rw [addr_add, run_store P W _ v .plain (h1 v (by simp)), cell_at h, Array.getElem?_eq_getElem hin]
   simp [frozen_at h]
  have hw := wset_setCell h (o + i) v
  obtain ⟨c0, t0, g1, g2, g3⟩ := hw.here
  rw [h] at g1
  injection g1 with g1
  injection g1 with g1 g1' _
  subst g1 g1'
  obtain ⟨W', hr, hw'⟩ := ih (i + 1) (W.setCell ⟨b, o + i, none⟩ v) (cs.setIfInBounds (o + i) v) g2 (by simp at hl ⊢; omega) (fun u hu => h1 u (by simp [hu]))
  refine ⟨W', ?_, ?_⟩
  ·simp only [storeCells, Sem.run_bind, hs, Result.andThen_ok]
   exact hr
  ·have e : splice (cs.setIfInBounds (o + i) v).toList (o + (i + 1)) vs = splice cs.toList (o + i) (v :: vs) := by
    apply List.ext_getElem?
    intro j
    simp at hl
    rw [splice_get (by simp; omega), splice_get (by simp; omega)]
    by_cases hj : j = o + i
    ·subst hj
     rw [if_neg (by omega), if_pos (by simp)]
     simp [hin]
    ·by_cases hj2 : o + (i + 1) ≤ j ∧ j < o + (i + 1) + vs.length
     ·rw [if_pos hj2, if_pos (by simp; omega)]
      obtain ⟨q, hq⟩ : ∃ q, j - (o + i) = q + 1 := ⟨j - (o + i) - 1, by omega⟩
      rw [hq, List.getElem?_cons_succ]
      congr 1
      omega
     ·rw [if_neg hj2, if_neg (by simp; omega)]
      simp only [Array.toList_setIfInBounds]
      rw [List.getElem?_set_ne (by omega)]
   rw [e] at hw'
   exact hw.trans hw'
theorem run_loadCellsFrom (P : Program) (W : World) (a : Addr) : ∀ (vs : List Value) (i : Nat) (acc : Array Value), (∀ j v, vs[j]? = some v → W.cell? (a.add (i + j)) = some v) →
  (loadCellsFrom a i vs.length acc).run P W = .ok (acc ++ vs.toArray) W := by
 intro vs
 induction vs with
 | nil => intro i acc h; simp [loadCellsFrom]
 | cons v vs ih =>
  intro i acc h
  have h0 := h 0 v rfl
  rw [Nat.add_zero] at h0
  simp only [List.length_cons, loadCellsFrom, Sem.run_bind, run_load, h0, Result.andThen_ok]
  rw [ih (i + 1) (acc.push v) (fun j u hj => by
   have := h (j + 1) u (by simpa using hj)
   rw [show i + 1 + j = i + (j + 1) by omega]; exact this)]
  simp
theorem run_loadCells (P : Program) (W : World) (a : Addr) (vs : List Value) (h : ∀ j v, vs[j]? = some v → W.cell? (a.add j) = some v) : (loadCells a vs.length).run P W = .ok vs.toArray W := by
 unfold loadCells
 rw [run_loadCellsFrom P W a vs 0 #[] (fun j v hj => by rw [Nat.zero_add]; exact h j v hj)]
 simp
def aggDesc : TypeDesc → Bool
 | .struct _ => true
 | .array _ _ => true
 | _ => false
structure TyFact (P : Program) (t n : Nat) (g : Bool) : Prop where
 info : ∃ i, P.info? t = some i ∧ i.size = n
 und : ∃ d, P.underlying t = some d ∧ aggDesc d = g
structure ElemFact (P : Program) (e : Nat) (u : U) (bytes : Nat) : Prop where
 und : ∃ d, P.underlying e = some d ∧ aggDesc d = u.agg
 info : ∃ i z, P.info? e = some i ∧ i.size = u.size ∧ i.bytes = bytes ∧ i.zero = some z ∧ z.cells.toList = zcells u
def isIfc : TypeDesc → Bool
 | .interface _ => true
 | _ => false
def isPtr : TypeDesc → Bool
 | .pointer _ => true
 | _ => false
structure MethFact (P : Program) (t : Nat) (name : String) (f : Nat) (r : Option Nat) : Prop where
 row : ∃ i m p, P.info? t = some i ∧ i.methods.find? (·.name == name) = some m ∧ m.path = #[] ∧ m.func = some (f, p) ∧
  (match r with
   | none => ∃ d, P.underlying t = some d ∧ isPtr d = p
   | some e => P.underlying t = some (.pointer e) ∧ p = false)
def SrtOk (P : Program) (f g : Nat) : Prop := (∃ fn, P.funcs[f]? = some fn ∧ (fn.name == "runtime.NumGoroutine") = false ∧ fn.body.isNone = false) ∧
 ∀ (W : World) (c b : Nat) (t : TypeId) (es : Array MapEntry) (ks : List Int), W.heap[c]? = some (.cells #[.map (some b)] t (0, 0)) → W.heap[b]? = some (.map es ks.length) → es.size = ks.length →
  (∀ (i : Nat) (k : Int), ks[i]? = some k → ∃ e : MapEntry, es[i]? = some e ∧ e.key = .int .i64 k ∧ e.born = i) → ks.Nodup → (∀ k ∈ ks, inI64 k = true) → ks.length * 8 ≤ maxBytes →
  Calls P f #[.func (.func g) #[] #[.pointer (some ⟨c, 0, none⟩)]] W fun e W' => ∃ v, e = .returned v ∧ Below W.heap.size W W' ∧
   ((v = .slice none 0 0 ∧ ks = []) ∨ ∃ q cap cur ty, v = .slice (some ⟨q, 0, none⟩) ks.length cap ∧ W.heap.size ≤ q ∧ W'.heap[q]? = some (.cells cur ty (0, 0)) ∧ ks.length ≤ cap ∧ cap ≤ cur.size ∧ cur.toList.take ks.length = (isort ks).map fun x => .int .i64 x)
structure TEok (P : Program) (E : TE) : Prop where
 srt : ∀ f g, Go.Proofs.YtdokfjkihjkcmaaGreatDoor.Den.srt f = some g → SrtOk P f g
 conc : ∀ t, E.conc t = true → ∃ d, P.underlying t = some d ∧ isIfc d = false
 bz : ∀ t b l, E.bz t = some (b :: l) → ∃ i z, P.info? t = some i ∧ i.zero = some z ∧ z.cells.toList = bzcells (b :: l) ∧ ∃ (fs : Array Field) (places : List (Nat × Nat)), P.underlying t = some (.struct fs) ∧ fs.toList.mapM (fun f => (P.info? f.type).map fun i => (f.offset, i.size)) = some places ∧
  ∀ f o, (bzU (b :: l)).off [.fld f] = some o → ∃ u, dcode (bzU (b :: l)) [.fld f] = some u ∧ places.toArray[f]? = some (o, u.size)
 meth : ∀ t name f r, E.meth t name = some (f, r) → MethFact P t name f r
 mixed : P.follows .mixedOrders = true
 str : ∀ t, E.str t = true → P.underlying t = some .string
 byt : ∀ t, E.byt t = true → ∃ e, P.underlying t = some (.slice e) ∧ P.underlying e = some (.int .u8)
 sz : ∀ t n g, E.sz t = some (n, g) → TyFact P t n g ∧ (g = false → n = 1)
 zero : ∀ t u, E.ty t = some u → ∃ i z, P.info? t = some i ∧ i.zero = some z ∧ z.cells.toList = zcells u
 bool : ∀ t, E.ty t = some .bool → P.underlying t = some .bool
 int : ∀ t k, E.ty t = some (.int k) → P.underlying t = some (.int k)
 elem : ∀ t u, E.elem t = some u → ∃ e, P.underlying t = some (.slice e) ∧ ElemFact P e u (E.ebytes t)
 aelem : ∀ t n u, E.aelem t = some (n, u) → ∃ e b, P.underlying t = some (.array n e) ∧ ElemFact P e u b
 mp : ∀ t u, E.mp t = some u → u.mel = true ∧ ∃ k e, P.underlying t = some (.map k e) ∧ P.underlying k = some (.int .i64) ∧ ∃ z, (∀ W, (zeroValue e).run P W = .ok z W) ∧ zcells u = [z]
 foff : ∀ t f o, E.foff t f = some o → ∃ fs fd, P.underlying t = some (.struct fs) ∧ fs[f]? = some fd ∧ fd.offset = o ∧ ∃ i, P.info? fd.type = some i ∧ i.size ≠ 0
 fpart : ∀ t f o n g, E.fpart t f = some (o, n, g) → ∃ fs fd, P.underlying t = some (.struct fs) ∧ fs[f]? = some fd ∧ fd.offset = o ∧ TyFact P fd.type n g ∧ (g = false → n = 1)
 build : ∀ t a b, E.ty t = some (.cons a b) → ∃ (fs : Array Field) (places : List (Nat × Nat)), P.underlying t = some (.struct fs) ∧ fs.toList.mapM (fun f => (P.info? f.type).map fun i => (f.offset, i.size)) = some places ∧
  ∀ f o, (U.cons a b).off [.fld f] = some o → ∃ u, dcode (.cons a b) [.fld f] = some u ∧ places.toArray[f]? = some (o, u.size)
 unit : ∀ t, E.ty t = some .nil → ∃ (fs : Array Field) (places : List (Nat × Nat)), P.underlying t = some (.struct fs) ∧ fs.toList.mapM (fun f => (P.info? f.type).map fun i => (f.offset, i.size)) = some places
 eq : ∀ t u, E.ty t = some u → u.eqok = true → u.agg = true → P.eqGuardType P.depth t = false ∧
  ∀ (W : World) (I I' : Nat → Prop) (x y : u.T) (xs ys : List Value), RelD W I u x xs → RelD W I' u y ys → (Op.equalIn 10000 t (.agg xs.toArray) (.agg ys.toArray)).run P W = .ok (u.eq x y) W
def Res.to : Res → V → HF → Prop
 | .fail, _, _ => False
 | .ok v H, v', H' => v = v' ∧ H = H'
 | .ite c a b, v', H' => (c = true ∧ a.to v' H') ∨ (c = false ∧ b.to v' H')
 | .opt r o k, v', H' => ∃ x, o = some x ∧ (k x).to v' H'
theorem Res.run_to {β : Type} {K : V → HF → Option β} {r : β} : ∀ {x : Res}, x.run K = some r → ∃ v H, x.to v H ∧ K v H = some r := by
 intro x
 induction x with
 | fail => intro h; cases h
 | ok v H => intro h; exact ⟨v, H, ⟨rfl, rfl⟩, h⟩
 | ite c a b iha ihb =>
  intro h
  cases c with
  | true =>
   obtain ⟨v, H, h1, h2⟩ := iha h
   exact ⟨v, H, .inl ⟨rfl, h1⟩, h2⟩
  | false =>
   obtain ⟨v, H, h1, h2⟩ := ihb h
   exact ⟨v, H, .inr ⟨rfl, h1⟩, h2⟩
 | opt s o k ih =>
  intro h
  simp only [Res.run] at h
  obtain ⟨y, hy, h⟩ := Option.bind_eq_some_iff.1 h
  obtain ⟨v, H, h1, h2⟩ := ih y h
  exact ⟨v, H, ⟨y, hy, h1⟩, h2⟩
def OpOk (B : Nat) (s : S4) (key : Nat) (run : Result Next) (v : V) (H' : HF) : Prop :=
 ∃ t : S4, t.H = H' ∧ MemOk B t ∧ Ext B s t ∧ (∀ k, t.U k → s.U k ∨ (key ≤ k ∧ k < key + 16)) ∧
  ((∃ x, run = .ok (.value x) t.W ∧ RelV t v x) ∨ (run = .ok .skip t.W ∧ v = .undef))
theorem OpOk.same {B : Nat} {s : S4} (h : MemOk B s) {key : Nat} {run : Result Next} {v : V} {x : Value} (hr : run = .ok (.value x) s.W) (hv : RelV s v x) : OpOk B s key run v s.H :=
 ⟨s, rfl, h, Ext.refl B s, fun k hk => .inl hk, .inl ⟨x, hr, hv⟩⟩
theorem relV_of {s : S4} {v : V} {x : Value} {cs : List Value} (h : RelC s v cs) (hx : IsVal v.agg cs x) : RelV s v x := by
 cases v with
 | tup vs => simp only [RelC] at h
 | _ => exact .inr ⟨cs, relT_of h, hx⟩
theorem relV_undef {s : S4} {x : Value} : RelV s .undef x := .inl rfl
theorem relV_d {s : S4} {u : U} {x : u.T} {v : Value} {cs : List Value} (h : RelD s.W s.I u x cs) (hv : IsVal u.agg cs v) : RelV s (.d u x) v :=
 .inr ⟨cs, relT_of (by simp only [RelC]; exact h), by simpa [V.agg, V.sk, U.sk_agg] using hv⟩
theorem RelV.get {s : S4} {v : V} {x : Value} (h : RelV s v x) (h1 : v ≠ .undef) (h2 : ∀ w, v ≠ .tup w) (h3 : v.isY = false := by rfl) : ∃ cs, RelC s v cs ∧ IsVal v.agg cs x := by
 cases v with
 | tup vs => exact absurd rfl (h2 vs)
 | undef => exact absurd rfl h1
 | _ =>
  rcases h with h | ⟨cs, h, h'⟩
  ·cases h
  ·exact ⟨cs, h.toC h3, h'⟩
theorem relV_int {s : S4} {k : IntKind} {n : Int} {x : Value} (h : RelV s (.d (.int k) n) x) : x = .int k n := by
 obtain ⟨cs, h1, h2⟩ := h.get (by intro h; cases h) (by intro w h; cases h)
 simp only [RelC, RelD] at h1
 subst h1
 simp [IsVal, V.agg, V.sk, U.sk, U.agg] at h2
 exact h2.symm
theorem relV_bool {s : S4} {b : Bool} {x : Value} (h : RelV s (.d .bool b) x) : x = .bool b := by
 obtain ⟨cs, h1, h2⟩ := h.get (by intro h; cases h) (by intro w h; cases h)
 simp only [RelC, RelD] at h1
 subst h1
 simp [IsVal, V.agg, V.sk, U.sk, U.agg] at h2
 exact h2.symm
theorem int_relV {s : S4} {k : IntKind} {n : Int} : RelV s (.d (.int k) n) (.int k n) := relV_d (cs := [.int k n]) rfl rfl
theorem bool_relV {s : S4} {b : Bool} : RelV s (.d .bool b) (.bool b) := relV_d (cs := [.bool b]) rfl rfl
theorem evO_rel {s : S4} {T : TF} {a : Act} (hT : TRel s T a.tmps) : ∀ x : Operand, RelV s (evO T x) (a.eval x)
 | .tmp t => hT.tmp t
 | .const v => by
  show RelV s (constV v) v
  unfold constV
  split
  ·exact int_relV
  ·exact bool_relV
  ·exact .inr ⟨[.slice none 0 0], rfl, rfl⟩
  ·exact .inl rfl
 | .func f => .inr ⟨[.func (.func f) #[] #[]], relT_of (v := .fn f .nil .nil) (by simp only [RelC, RelL]; exact .inr ⟨[], [], rfl, rfl, rfl⟩), rfl⟩
 | .global g => by
  show RelV s (globV (globs g)) (.pointer (some ⟨g, 0, none⟩))
  cases hg : globs g with
  | none => exact .inl rfl
  | some q =>
   obtain ⟨u, x⟩ := q
   obtain ⟨h1, c, h2, h3⟩ := hT.gl g u x hg
   exact .inr ⟨[.pointer (some ⟨g, 0, none⟩)], relT_of (v := .pdeep u x) (by simp only [RelC]; exact ⟨_, c, rfl, h1, h2, h3⟩), rfl⟩
theorem isVal_cells {g : Bool} {cs : List Value} {v : Value} (h : IsVal g cs v) (h1 : ∀ w ∈ cs, w.oneCell' = true) : v.cells = cs.toArray := by
 cases g with
 | true => simp only [IsVal] at h; subst h; rfl
 | false =>
  simp only [IsVal] at h
  subst h
  have := h1 v (by simp)
  cases v <;> simp [Value.oneCell'] at this <;> rfl
theorem run_isAgg {P : Program} {t n : Nat} {g : Bool} (h : TyFact P t n g) (W : World) : (isAgg t).run P W = .ok g W := by
 obtain ⟨d, hd, hg⟩ := h.und
 unfold isAgg underlying
 simp only [Sem.run_bind, run_program, Result.andThen_ok, hd, Sem.run_pure]
 cases d <;> simp [aggDesc] at hg <;> subst hg <;> rfl
theorem run_sizeOf {P : Program} {t n : Nat} {g : Bool} (h : TyFact P t n g) (W : World) : (sizeOf t).run P W = .ok n W := by
 obtain ⟨i, hi, hn⟩ := h.info
 simp [sizeOf, typeInfo, hi, hn]
theorem run_loadVar {P : Program} {t n : Nat} {g : Bool} (h : TyFact P t n g) (hg : g = false → n = 1) (W : World) (a : Addr) (cs : List Value) (hn : cs.length = n) (hc : ∀ j v, cs[j]? = some v → W.cell? (a.add j) = some v) :
  ∃ v, (loadVar t a).run P W = .ok v W ∧ IsVal g cs v := by
 unfold loadVar
 simp only [Sem.run_bind, run_isAgg h, Result.andThen_ok]
 cases g with
 | true =>
  simp only [if_true, Sem.run_bind, run_sizeOf h, Result.andThen_ok]
  rw [← hn, run_loadCells P W a cs hc]
  exact ⟨_, rfl, rfl⟩
 | false =>
  have h1 := hg rfl
  obtain ⟨v, rfl⟩ : ∃ v, cs = [v] := by
   match cs, hn with
   | [v], _ => exact ⟨v, rfl⟩
   | [], hn => simp at hn; omega
   | _ :: _ :: _, hn => simp at hn; omega
  have h0 := hc 0 v rfl
  rw [show a.add 0 = a from rfl] at h0
  refine ⟨v, ?_, rfl⟩
  simp [h0]
theorem run_storeVar {P : Program} {t n : Nat} {g : Bool} (h : TyFact P t n g) {b o : Nat} {cs : Array Value} {t' : TypeId} {W : World} (hb : W.heap[b]? = some (.cells cs t' (0, 0))) {v : Value} {vs : List Value} {g' : Bool} (hv : IsVal g' vs v)
  (h1 : ∀ w ∈ vs, w.oneCell' = true) (hn : vs.length = n) (ho : o + n ≤ cs.size) : ∃ W', (storeVar t ⟨b, o, none⟩ v).run P W = .ok () W' ∧ WSet W W' b (splice cs.toList o vs).toArray := by
 have hc := isVal_cells hv h1
 obtain ⟨W', hr, hw⟩ := run_storeCells_at P (o := o) vs 0 W cs hb (by simpa [hn] using ho) h1
 refine ⟨W', ?_, by simpa using hw⟩
 unfold storeVar
 simp only [Sem.run_bind, run_sizeOf h, Result.andThen_ok, hc]
 rw [if_neg (by simp [hn])]
 simpa using hr
end Go.Proofs.YtdokfjkihjkcmaaGreatDoor.Den

/- Operations that read: load, field's and element's address; each as the machine does it. -/
namespace Go.Proofs.YtdokfjkihjkcmaaGreatDoor.Den
open Go Go.RowKit
set_option linter.unusedVariables false
theorem nat_beq {a b : Nat} (h : Nat.beq a b = true) : a = b := Nat.eq_of_beq_eq_true h
theorem isVal_one {g : Bool} {v x : Value} (h : IsVal g [v] x) (hg : g = false) : x = v := by
 subst hg
 simp [IsVal] at h
 exact h.symm
theorem ptr_val {s : S4} {v : V} {x : Value} {w : Value} (h : RelV s v x) (h1 : v ≠ .undef) (h2 : ∀ w, v ≠ .tup w) (hs : v.agg = false) (hc : ∀ cs, RelC s v cs → cs = [w]) (h3 : v.isY = false := by rfl) : x = w := by
 obtain ⟨cs, hr, hv⟩ := h.get h1 h2 h3
 have := hc cs hr
 subst this
 exact isVal_one hv hs
theorem off_append : ∀ {u : U} {p q : List Step} {v : U} {o o' : Nat}, dcode u p = some v → u.off p = some o → v.off q = some o' → u.off (p ++ q) = some (o + o')
 | u, [], q, v, o, o', h, ho, hq => by
  rw [dcode_nil] at h
  injection h with h
  subst h
  rw [off_nil] at ho
  injection ho with ho
  subst ho
  simpa using hq
 | .cons a b, .fld 0 :: p, q, v, o, o', h, ho, hq => off_append (u := a) h ho hq
 | .cons a b, .fld (n + 1) :: p, q, v, o, o', h, ho, hq => by
  simp only [U.off] at ho
  cases hb : b.off (.fld n :: p) with
  | none => rw [hb] at ho; cases ho
  | some o1 =>
   rw [hb] at ho
   injection ho with ho
   subst ho
   have := off_append (u := b) (p := .fld n :: p) h hb hq
   simp only [List.cons_append, U.off] at this ⊢
   rw [this]
   simp [Nat.add_assoc]
 | .arr n u, .idx i :: p, q, v, o, o', h, ho, hq => by
  simp only [U.off] at ho
  cases hb : u.off p with
  | none => rw [hb] at ho; cases ho
  | some o1 =>
   rw [hb] at ho
   simp only at ho
   by_cases hi : i < n
   ·rw [if_pos hi] at ho
    injection ho with ho
    subst ho
    have := off_append (u := u) (p := p) h hb hq
    simp only [List.cons_append, U.off]
    rw [this]
    simp [hi, Nat.add_assoc]
   ·rw [if_neg hi] at ho; cases ho
 | .int _, _ :: _, _, _, _, _, h, _, _ => by simp [dcode] at h
 | .bool, _ :: _, _, _, _, _, h, _, _ => by simp [dcode] at h
 | .fn, _ :: _, _, _, _, _, h, _, _ => by simp [dcode] at h
 | .sl _, _ :: _, _, _, _, _, h, _, _ => by simp [dcode] at h
 | .nil, _ :: _, _, _, _, _, h, _, _ => by simp [dcode] at h
 | .cons _ _, .idx _ :: _, _, _, _, _, h, _, _ => by simp [dcode] at h
 | .arr _ _, .fld _ :: _, _, _, _, _, h, _, _ => by simp [dcode] at h
theorem pvar_at {B : Nat} {s : S4} (h : MemOk B s) {k : Nat} {p : List Step} {x : Value} (hx : RelV s (.pvar k p) x) {c : V} (hc : s.H.pv k = some c) :
  ∃ o cs t, x = .pointer (some ⟨s.ρ.var k, o, none⟩) ∧ c.sk.off p = some o ∧ s.W.heap[s.ρ.var k]? = some (.cells cs t (0, 0)) ∧ RelC s c cs.toList := by
 obtain ⟨cs, hr, hv⟩ := hx.get (by intro h; cases h) (by intro w h; cases h)
 simp only [RelC] at hr
 obtain ⟨_, v, rfl, _, hp⟩ := hr
 obtain ⟨hm, o, ho, rfl⟩ := hp c hc
 obtain ⟨_, _, _, ob, hb, hd⟩ := h.var k c (pv_var hc).1
 obtain ⟨ds, t, rfl, he⟩ := hd.cells hm
 exact ⟨o, ds, t, isVal_one hv rfl, ho, hb, he⟩
theorem prow_at {B : Nat} {s : S4} (h : MemOk B s) {k i : Nat} {p : List Step} {x : Value} (hx : RelV s (.prow k i p) x) {r : Row} (hr : s.H.row k = some r) :
  ∃ b base o cur t c, x = .pointer (some ⟨b, base + i * r.u.size + o, none⟩) ∧ s.ρ.row k = some (b, base) ∧ i < r.xs.length ∧ r.u.off p = some o ∧ s.W.heap[b]? = some (.cells cur t (0, 0)) ∧
   base + r.xs.length * r.u.size ≤ cur.size ∧ RelD s.W s.I r.u (r.xs.getD i r.u.zero) c ∧ ∀ (j : Nat) (v : Value), c[j]? = some v → cur[base + i * r.u.size + j]? = some v := by
 obtain ⟨cs, hc, hv⟩ := hx.get (by intro h; cases h) (by intro w h; cases h)
 simp only [RelC] at hc
 obtain ⟨_, v, rfl, _, hp⟩ := hc
 obtain ⟨b, base, o, h1, h2, h3, rfl⟩ := hp _ (geo_row hr)
 obtain ⟨_, _, h4⟩ := h.row k r hr
 rcases h4 with h4 | ⟨b', base', cur, t, e, hh, _, _, hs, hx⟩
 ·rw [h4.2] at h1; cases h1
 ·have he := e
  rw [h1] at he
  injection he with he
  injection he with e1 e2
  subst e1 e2
  have hxi : r.xs[i]? = some (r.xs.getD i r.u.zero) := by
   rw [List.getD_eq_getElem?_getD, List.getElem?_eq_getElem h2]; rfl
  obtain ⟨c, hc, hcc⟩ := hx i _ hxi
  exact ⟨b, base, o, cur, t, c, isVal_one hv rfl, h1, h2, h3, hh, hs, hc, hcc⟩
theorem prow_geo {s : S4} {k i : Nat} {p : List Step} {x : Value} (hx : RelV s (.prow k i p) x) {g : Geo} (hg : s.H.geo k = some g) :
  ∃ b base o, x = .pointer (some ⟨b, base + i * g.u.size + o, none⟩) ∧ s.ρ.row k = some (b, base) ∧ i < g.n ∧ g.u.off p = some o := by
 obtain ⟨cs, hc, hv⟩ := hx.get (by intro h; cases h) (by intro w h; cases h)
 simp only [RelC] at hc
 obtain ⟨_, v, rfl, _, hp⟩ := hc
 obtain ⟨b, base, o, h1, h2, h3, rfl⟩ := hp g hg
 exact ⟨b, base, o, isVal_one hv rfl, h1, h2, h3⟩
theorem hole_at {B : Nat} {s : S4} (h : MemOk B s) {k k' : Nat} {u : U} {xs : List u.T} {j : Nat} {w : V} (hc : s.H.var k = some (.hrow k' u xs j w)) :
  k' = k ∧ s.H.row k = none ∧ s.H.geo k = some ⟨u, xs.length⟩ ∧ ∃ base cur t, s.ρ.row k = some (s.ρ.var k, base) ∧ s.W.heap[s.ρ.var k]? = some (.cells cur t (0, 0)) ∧ HRel s k u xs j w cur := by
 obtain ⟨h1, ⟨base, h2⟩, ⟨u', xs', i', w', e⟩ | ⟨_, _, _, _, _, e⟩⟩ := h.hk k _ hc rfl
 rotate_left
 ·cases e
 obtain rfl : k' = k := by injection e
 obtain ⟨_, _, _, o, hb, hr⟩ := h.var k' _ hc
 obtain ⟨cs, t, rfl, hr⟩ := hr
 refine ⟨rfl, h1, ?_, base, cs, t, h2, hb, hr⟩
 unfold HF.geo
 rw [h1, hc]
theorem dcd_size (v r : U) : (dcd v r).size = 1 + r.size := by
 unfold dcd
 split <;> rfl
theorem drow_at {B : Nat} {s : S4} (h : MemOk B s) {k : Nat} {v r : U} {xs : List (List v.T × r.T)} {q : Nat} {ho : Option Nat} (hc : s.H.var k = some (.drow v r xs q ho)) :
  s.H.row k = none ∧ s.H.geo k = some ⟨dcd v r, xs.length⟩ ∧ s.U q ∧ 0 < v.size ∧ ∃ base cs t, s.ρ.row k = some (s.ρ.var k, base) ∧ s.W.heap[s.ρ.var k]? = some (.cells cs t (0, 0)) ∧ base + xs.length * (dcd v r).size ≤ cs.size ∧
   ∀ (i : Nat) (x : List v.T × r.T), xs[i]? = some x → ho ≠ some i → DEl B s v r x (s.ρ.fam q i) cs (base + i * (dcd v r).size) := by
 have h1 := (h.hk k _ hc rfl).1
 obtain ⟨_, h2, h3, h4⟩ := h.dj.el k v r xs q ho hc
 refine ⟨h1, ?_, h2, h3, h4⟩
 unfold HF.geo
 rw [h1, hc]
theorem dsl_at {s : S4} {k q i n : Nat} {x : Value} (hx : RelV s (.dsl k q i n) x) : s.U q ∧ ∃ A len cap, s.ρ.fam q i = .slice A len cap ∧ x = .slice A n cap ∧ n ≤ len ∧ len ≤ cap := by
 obtain ⟨cs, hc, hv⟩ := hx.get (by intro h; cases h) (by intro w h; cases h)
 simp only [RelC] at hc
 obtain ⟨hu, v, rfl, _, A, len, cap, h1, rfl, h2⟩ := hc
 exact ⟨hu, A, len, cap, h1, isVal_one hv rfl, h2⟩
theorem dpi_at {s : S4} {u : U} {k q i j : Nat} {x : Value} (hx : RelV s (.dpi u k q i j) x) : s.U q ∧ ∃ b o len cap, s.ρ.fam q i = .slice (some ⟨b, o, none⟩) len cap ∧ x = .pointer (some ⟨b, o + j * u.size, none⟩) ∧ j < len := by
 obtain ⟨cs, hc, hv⟩ := hx.get (by intro h; cases h) (by intro w h; cases h)
 simp only [RelC] at hc
 obtain ⟨hu, v, rfl, _, b, o, len, cap, h1, rfl, h2⟩ := hc
 exact ⟨hu, b, o, len, cap, h1, isVal_one hv rfl, h2⟩
theorem dsl_relV {s : S4} {k q i n : Nat} {A : Option Addr} {len cap : Nat} (hu : s.U q) (h1 : s.ρ.fam q i = .slice A len cap) (h2 : n ≤ len) (h3 : len ≤ cap) : RelV s (.dsl k q i n) (.slice A n cap) := by
 refine relV_of (cs := [_]) ?_ rfl
 simp only [RelC]
 exact ⟨hu, _, rfl, rfl, A, len, cap, h1, rfl, h2, h3⟩
theorem dpi_relV {s : S4} {u : U} {k q i j : Nat} {b o len cap : Nat} (hu : s.U q) (h1 : s.ρ.fam q i = .slice (some ⟨b, o, none⟩) len cap) (h2 : j < len) : RelV s (.dpi u k q i j) (.pointer (some ⟨b, o + j * u.size, none⟩)) := by
 refine relV_of (cs := [_]) ?_ rfl
 simp only [RelC]
 exact ⟨hu, _, rfl, rfl, b, o, len, cap, h1, rfl, h2⟩
theorem blt_lt {a b : Nat} (h : Nat.blt a b = true) : a < b := Nat.lt_of_succ_le (by simpa [Nat.blt] using h)
theorem pdeep_at {s : S4} {u : U} {y : u.T} {x : Value} (hx : RelV s (.pdeep u y) x) :
  ∃ ad c, x = .pointer (some ad) ∧ s.I ad.block ∧ RelD s.W s.I u y c ∧ ∀ j w, c[j]? = some w → s.W.cell? (ad.add j) = some w := by
 obtain ⟨cs, hc, hv⟩ := hx.get (by intro h; cases h) (by intro w h; cases h)
 simp only [RelC] at hc
 obtain ⟨ad, c, rfl, h1, h2, h3⟩ := hc
 exact ⟨ad, c, isVal_one hv rfl, h1, h2, h3⟩
theorem run_sureAddr (P : Program) (W : World) (a : Addr) : (Instr.sureAddr (.pointer (some a))).run P W = .ok a W := rfl
theorem loadD_ok {P : Program} {E : TE} (hE : TEok P E) {B : Nat} {s : S4} (h : MemOk B s) {t k i : Nat} {p : List Step} {v' : V} {H' : HF} {x : Value} (hx : RelV s (.prow k i p) x) (hto : (loadD E s.H t k i p (s.H.var k)).to v' H') :
  H' = s.H ∧ ∃ y, (Instr.loadAt t x).run P s.W = .ok y s.W ∧ RelV s v' y := by
 unfold loadD at hto
 split at hto
 ·rename_i k' u xs j w hcv
  split at hto
  ·rename_i v hw
   split at hto
   ·rename_i n g hs
    split at hto
    ·rename_i hq
     rcases hto with ⟨hij, rfl, rfl⟩ | ⟨_, hto⟩
     ·have hij := nat_beq hij
      subst hij
      simp only [Bool.and_eq_true, beq_iff_eq] at hq
      obtain ⟨hn, hg⟩ := hq
      have hn := nat_beq hn
      obtain ⟨rfl, _, hgeo, base, cur, t', hp, hb, hr⟩ := hole_at h hcv
      obtain ⟨b, base', o, rfl, hp', hi, ho⟩ := prow_geo hx hgeo
      rw [hp] at hp'
      injection hp' with hp'
      injection hp' with e1 e2
      subst e1 e2
      obtain ⟨q1, _, c, q2, q3, q4⟩ := hr.at_ _ _ hp
      obtain ⟨g1, g2⟩ := get_rel hw q2 (by rw [hr.sk, sk_off]; exact ho)
      obtain ⟨hf, hf1⟩ := hE.sz t n g hs
      obtain ⟨z, hz, hv⟩ := run_loadVar hf hf1 s.W ⟨s.ρ.var k', base + i * u.size + o, none⟩ _ (by rw [g2.len]; exact hn) (fun j w hj => by
       rw [addr_add, cell_at hb]
       rw [List.getElem?_take] at hj
       split at hj
       ·rw [List.getElem?_drop] at hj
        have := q4 (o + j) w hj
        rw [Nat.add_assoc]
        exact this
       ·cases hj)
      refine ⟨rfl, z, ?_, relV_of g2 (by rw [hg]; exact hv)⟩
      simp only [Instr.loadAt, Sem.run_bind, run_sureAddr, Result.andThen_ok]
      exact hz
     ·cases hto
    ·cases hto
   ·cases hto
  ·cases hto
 ·rename_i v r xs q hcv
  split at hto
  ·rename_i hpr
   simp only [Bool.and_eq_true, decide_eq_true_eq] at hpr
   obtain ⟨rfl, rfl⟩ := hpr
   split at hto
   ·rename_i n g hs
    split at hto
    ·rename_i hq
     obtain ⟨rfl, rfl⟩ := hto
     simp only [Bool.and_eq_true, beq_iff_eq] at hq
     obtain ⟨hn, hg⟩ := hq
     have hn := nat_beq hn
     subst hn hg
     obtain ⟨_, hgeo, hU, _, base, cs, ty, hp, hb, hsz, hel⟩ := drow_at h hcv
     obtain ⟨b, base', o, rfl, hp', hi, ho⟩ := prow_geo hx hgeo
     rw [hp] at hp'
     injection hp' with hp'
     injection hp' with e1 e2
     subst e1 e2
     have hi : i < xs.length := hi
     have ho : o = 0 := by rw [off_nil] at ho; injection ho with ho; exact ho.symm
     subst ho
     obtain ⟨d1, ⟨A, cap, d2, d3, _⟩, _⟩ := hel i _ (List.getElem?_eq_getElem hi) (by intro h; cases h)
     obtain ⟨hf, hf1⟩ := hE.sz t 1 false hs
     obtain ⟨z, hz, hv⟩ := run_loadVar hf hf1 s.W ⟨s.ρ.var k, base + i * (dcd v .nil).size + 0, none⟩ [s.ρ.fam q i] rfl (fun j w hj => by
      rw [addr_add, cell_at hb]
      cases j with
      | zero =>
       injection hj with hj
       subst hj
       exact d1
      | succ j => simp at hj)
     refine ⟨rfl, z, ?_, ?_⟩
     ·simp only [Instr.loadAt, Sem.run_bind, run_sureAddr, Result.andThen_ok]
      exact hz
     ·have e := isVal_one hv rfl
      subst e
      have e2 : (xs.getD i ([], U.zero .nil)) = xs[i] := by simp [List.getD, hi]
      rw [d2, e2]
      exact dsl_relV hU d2 (Nat.le_refl _) d3
    ·cases hto
   ·cases hto
  ·cases hto
 ·cases hto
theorem loadI_ok {P : Program} {E : TE} (hE : TEok P E) {B : Nat} {s : S4} (h : MemOk B s) {t : Nat} {u : U} {k q i j : Nat} {v' : V} {H' : HF} {x : Value} (hx : RelV s (.dpi u k q i j) x) (hto : (loadI E s.H t u q i j (s.H.var k)).to v' H') :
  H' = s.H ∧ ∃ y, (Instr.loadAt t x).run P s.W = .ok y s.W ∧ RelV s v' y := by
 unfold loadI at hto
 split at hto
 ·rename_i v r xs q' hcv
  split at hto
  ·rename_i hqq
   simp only [Bool.and_eq_true, decide_eq_true_eq] at hqq
   obtain ⟨e1, rfl⟩ := hqq
   have e1 := nat_beq e1
   subst e1
   split at hto
   ·rename_i n g hs
    split at hto
    ·rename_i hq
     rcases hto with ⟨hi, rfl, rfl⟩ | ⟨_, hto⟩
     ·have hi := blt_lt hi
      simp only [Bool.and_eq_true, beq_iff_eq] at hq
      obtain ⟨hn, hg⟩ := hq
      have hn := nat_beq hn
      obtain ⟨_, b, o, len, cap, f1, rfl, f2⟩ := dpi_at hx
      obtain ⟨_, _, _, _, base, cs, ty, hp, hb, hsz, hel⟩ := drow_at h hcv
      obtain ⟨_, ⟨A, cap', d2, d3, d4⟩, _⟩ := hel i _ (List.getElem?_eq_getElem hi) (by intro h; cases h)
      rw [f1] at d2
      injection d2 with d2 d5 d6
      subst d5 d6
      rcases d4 with d4 | ⟨b', o', cur, t', g1, g2, _, _, _, g3⟩
      ·omega
      ·rw [← d2] at g1
       injection g1 with g1
       injection g1 with g1 g1' _
       subst g1 g1'
       obtain ⟨c, c1, c2⟩ := g3 j _ (List.getElem?_eq_getElem f2)
       obtain ⟨hf, hf1⟩ := hE.sz t n g hs
       obtain ⟨z, hz, hv⟩ := run_loadVar hf hf1 s.W ⟨b, o + j * u.size, none⟩ c (by rw [c1.len]; exact hn) (fun m w hm => by
        rw [addr_add, cell_at g2]
        exact c2 m w hm)
       refine ⟨rfl, z, ?_, ?_⟩
       ·simp only [Instr.loadAt, Sem.run_bind, run_sureAddr, Result.andThen_ok]
        exact hz
       ·have e2 : ((xs.getD i ([], r.zero)).1.getD j u.zero) = xs[i].1[j] := by simp [List.getD, hi, f2]
        rw [e2]
        exact relV_d c1 (by rw [hg]; exact hv)
     ·cases hto
    ·cases hto
   ·cases hto
  ·cases hto
 ·cases hto
theorem loadV_ok {P : Program} {E : TE} (hE : TEok P E) {B : Nat} {s : S4} (h : MemOk B s) {t : Nat} {v v' : V} {H' : HF} {x : Value} (hx : RelV s v x) (hto : (loadV E s.H t v).to v' H') :
  H' = s.H ∧ ∃ y, (Instr.loadAt t x).run P s.W = .ok y s.W ∧ RelV s v' y := by
 unfold loadV at hto
 split at hto
 ·rename_i k p
  split at hto
  ·rename_i c hc
   split at hto
   ·rename_i w hw
    split at hto
    ·rename_i n g hs
     split at hto
     ·rename_i hq
      obtain ⟨rfl, rfl⟩ := hto
      simp only [Bool.and_eq_true, beq_iff_eq] at hq
      obtain ⟨hn, hg⟩ := hq
      have hn := nat_beq hn
      obtain ⟨o, cs, t', rfl, ho, hb, hr⟩ := pvar_at h hx hc
      obtain ⟨g1, g2⟩ := get_rel hw hr ho
      obtain ⟨hf, hf1⟩ := hE.sz t n g hs
      obtain ⟨y, hy, hv⟩ := run_loadVar hf hf1 s.W ⟨s.ρ.var k, o, none⟩ _ (by rw [g2.len]; exact hn) (fun j u hj => by
       rw [addr_add, cell_at hb]
       rw [List.getElem?_take] at hj
       split at hj
       ·rw [List.getElem?_drop] at hj
        simpa using hj
       ·cases hj)
      refine ⟨rfl, y, ?_, relV_of g2 (by rw [hg]; exact hv)⟩
      simp only [Instr.loadAt, Sem.run_bind, run_sureAddr, Result.andThen_ok]
      exact hy
     ·cases hto
    ·cases hto
   ·cases hto
  ·cases hto
 ·rename_i k i p
  split at hto
  ·rename_i r hr
   split at hto
   ·rename_i u y hd
    split at hto
    ·rename_i n g hs
     split at hto
     ·rename_i hq
      obtain ⟨rfl, rfl⟩ := hto
      simp only [Bool.and_eq_true, beq_iff_eq] at hq
      obtain ⟨hn, hg⟩ := hq
      have hn := nat_beq hn
      obtain ⟨b, base, o, cur, t', c, rfl, hp, hi, ho, hb, hsz, hc, hcc⟩ := prow_at h hx hr
      obtain ⟨g1, g2⟩ := dget_rel hd hc ho
      obtain ⟨hf, hf1⟩ := hE.sz t n g hs
      obtain ⟨z, hz, hv⟩ := run_loadVar hf hf1 s.W ⟨b, base + i * r.u.size + o, none⟩ _ (by rw [g2.len]; exact hn) (fun j w hj => by
       rw [addr_add, cell_at hb]
       rw [List.getElem?_take] at hj
       split at hj
       ·rw [List.getElem?_drop] at hj
        have := hcc (o + j) w hj
        rw [Nat.add_assoc]
        exact this
       ·cases hj)
      refine ⟨rfl, z, ?_, relV_d g2 (by rw [hg]; exact hv)⟩
      simp only [Instr.loadAt, Sem.run_bind, run_sureAddr, Result.andThen_ok]
      exact hz
     ·cases hto
    ·cases hto
   ·cases hto
  ·rename_i hrn
   exact loadD_ok hE h hx hto
 ·rename_i u k q i j
  exact loadI_ok hE h hx hto
 ·rename_i u y
  split at hto
  ·rename_i n g hs
   split at hto
   ·rename_i hq
    obtain ⟨rfl, rfl⟩ := hto
    simp only [Bool.and_eq_true, beq_iff_eq] at hq
    obtain ⟨hn, hg⟩ := hq
    have hn := nat_beq hn
    obtain ⟨ad, c, rfl, _, hc, hcc⟩ := pdeep_at hx
    obtain ⟨hf, hf1⟩ := hE.sz t n g hs
    obtain ⟨z, hz, hv⟩ := run_loadVar hf hf1 s.W ad c (by rw [hc.len]; exact hn) hcc
    refine ⟨rfl, z, ?_, relV_d hc (by rw [hg]; exact hv)⟩
    simp only [Instr.loadAt, Sem.run_bind, run_sureAddr, Result.andThen_ok]
    exact hz
   ·cases hto
  ·cases hto
 ·cases hto
theorem run_fieldAt {P : Program} {t f o : Nat} {fs : Array Field} {fd : Field} (h1 : P.underlying t = some (.struct fs)) (h2 : fs[f]? = some fd) (h3 : fd.offset = o) {i : TypeInfo} (h4 : P.info? fd.type = some i) (h5 : i.size ≠ 0) (W : World) (a : Addr) :
  (Instr.fieldAt t (.pointer (some a)) f).run P W = .ok (.pointer (some (a.add o))) W := by
 subst h3
 simp [Instr.fieldAt, underlying, h1, h2, Instr.sureAddr, fieldPlace, sizeOf, typeInfo, h4, h5]
theorem fieldV_ok {P : Program} {E : TE} (hE : TEok P E) {B : Nat} {s : S4} (h : MemOk B s) {t f : Nat} {v v' : V} {H' : HF} {x : Value} (hx : RelV s v x) (hto : (fieldV E s.H t f v).to v' H') :
  H' = s.H ∧ ∃ y, (Instr.fieldAt t x f).run P s.W = .ok y s.W ∧ RelV s v' y := by
 unfold fieldV at hto
 split at hto
 ·rename_i k p
  split at hto
  ·rename_i c hc
   split at hto
   ·rename_i w hw
    split at hto
    ·rename_i o1 ho1
     split at hto
     ·rename_i o2 ho2
      split at hto
      ·rename_i hq
       obtain ⟨rfl, rfl⟩ := hto
       have hq := nat_beq hq
       subst hq
       obtain ⟨fs, fd, h1, h2, h3, i, h4, h5⟩ := hE.foff t f o1 ho2
       have hx0 := hx
       obtain ⟨o, cs, t', rfl, ho, hb, hr⟩ := pvar_at h hx hc
       obtain ⟨g1, g2⟩ := get_rel hw hr ho
       refine ⟨rfl, _, run_fieldAt h1 h2 h3 h4 h5 s.W _, ?_⟩
       rw [addr_add]
       obtain ⟨cs', hr', _⟩ := hx0.get (by intro h; cases h) (by intro w h; cases h)
       simp only [RelC] at hr'
       refine .inr ⟨[_], relT_of ?_, rfl⟩
       simp only [RelC]
       refine ⟨hr'.1, _, rfl, rfl, fun c' hc' => ?_⟩
       rw [hc] at hc'
       injection hc' with hc'
       subst hc'
       exact ⟨(hr'.2.choose_spec.2.2 c hc).1, o + o1, off_append g1 ho ho1, rfl⟩
      ·cases hto
     ·cases hto
    ·cases hto
   ·cases hto
  ·cases hto
 ·rename_i k i p
  split at hto
  ·rename_i r hr
   split at hto
   ·rename_i u hd
    split at hto
    ·rename_i o1 ho1
     split at hto
     ·rename_i o2 ho2
      split at hto
      ·rename_i hq
       obtain ⟨rfl, rfl⟩ := hto
       have hq := nat_beq hq
       subst hq
       obtain ⟨fs, fd, h1, h2, h3, q, h4, h5⟩ := hE.foff t f o1 ho2
       have hx0 := hx
       obtain ⟨b, base, o, rfl, hp, hi, ho⟩ := prow_geo hx hr
       refine ⟨rfl, _, run_fieldAt h1 h2 h3 h4 h5 s.W _, ?_⟩
       rw [addr_add]
       obtain ⟨cs', hr', _⟩ := hx0.get (by intro h; cases h) (by intro w h; cases h)
       simp only [RelC] at hr'
       refine .inr ⟨[_], relT_of ?_, rfl⟩
       simp only [RelC]
       refine ⟨hr'.1, _, rfl, rfl, fun r' hr' => ?_⟩
       rw [hr] at hr'
       injection hr' with hr'
       subst hr'
       exact ⟨b, base, o + o1, hp, hi, off_append hd ho ho1, by rw [Nat.add_assoc]⟩
      ·cases hto
     ·cases hto
    ·cases hto
   ·cases hto
  ·cases hto
 ·rename_i u y
  split at hto
  ·rename_i o1 ho1
   split at hto
   ·rename_i o2 ho2
    split at hto
    ·rename_i hq
     have hq := nat_beq hq
     subst hq
     split at hto
     ·rename_i w z hd
      obtain ⟨rfl, rfl⟩ := hto
      obtain ⟨fs, fd, h1, h2, h3, q, h4, h5⟩ := hE.foff t f o1 ho2
      obtain ⟨ad, c, rfl, hI, hc, hcc⟩ := pdeep_at hx
      obtain ⟨g1, g2⟩ := dget_rel hd hc ho1
      refine ⟨rfl, _, run_fieldAt h1 h2 h3 h4 h5 s.W _, .inr ⟨[_], relT_of ?_, rfl⟩⟩
      simp only [RelC]
      refine ⟨_, _, rfl, by rw [add_block]; exact hI, g2, fun j v hj => ?_⟩
      rw [List.getElem?_take] at hj
      split at hj
      ·rw [List.getElem?_drop] at hj
       have := hcc _ v hj
       have e : (ad.add o1).add j = ad.add (o1 + j) := by
        unfold Addr.add
        by_cases h1 : o1 = 0 <;> by_cases h2 : j = 0 <;> simp [h1, h2, Nat.add_assoc]
       rw [e]
       exact this
      ·cases hj
     ·cases hto
    ·cases hto
   ·cases hto
  ·cases hto
 ·cases hto
end Go.Proofs.YtdokfjkihjkcmaaGreatDoor.Den

/- Values told as plain data; rows frozen; an element's address; slices cut. -/
namespace Go.Proofs.YtdokfjkihjkcmaaGreatDoor.Den
open Go Go.RowKit
set_option linter.unusedVariables false
def Iv (s : S4) (v : V) : Nat → Prop := fun b => s.I b ∨ ∃ k r base, k ∈ v.rows ∧ s.H.row k = some r ∧ s.ρ.row k = some (b, base)
theorem getD_of {α : Type} {xs : List α} {i : Nat} {d : α} (h : i < xs.length) : xs[i]? = some (xs.getD i d) := by
 rw [List.getD_eq_getElem?_getD, List.getElem?_eq_getElem h]; rfl
theorem row_slice {B : Nat} {s : S4} (h : MemOk B s) {k : Nat} {r : Row} (hr : s.H.row k = some r) {o n : Nat} (hon : o + n ≤ r.xs.length) {v : Value} (hv : RowV s.W (s.ρ.row k) r.u.size o n v) {J : Nat → Prop} (hJ : ∀ b, s.I b → J b) (hb : ∀ b base, s.ρ.row k = some (b, base) → J b) :
  RelD s.W J (.sl r.u) ((r.xs.drop o).take n) [v] := by
 obtain ⟨A, cap, rfl, hn, hc⟩ := hv
 have hlen : ((r.xs.drop o).take n).length = n := by simp; omega
 refine ⟨_, rfl, A, cap, by rw [hlen], by rw [hlen]; exact hn, fun i x hi => ?_⟩
 have hin : i < n := by
  have := (List.getElem?_eq_some_iff.1 hi).1
  omega
 rw [List.getElem?_take, if_pos hin, List.getElem?_drop] at hi
 rcases hc with hc | ⟨b, base, hp, hA, hs⟩
 ·omega
 ·obtain ⟨_, _, h3⟩ := h.row k r hr
  rcases h3 with h3 | ⟨b', base', cur, t, e, hh, _, _, hsz, hx⟩
  ·rw [h3.2] at hp; cases hp
  ·have he := e
   rw [hp] at he
   injection he with he
   injection he with e1 e2
   subst e1 e2
   obtain ⟨c, hc, hcc⟩ := hx _ x hi
   refine ⟨_, c, hA, hb b base hp, hc.mono hJ (fun _ _ => rfl), hc.len, fun j w hj => ?_⟩
   rw [addr_add, cell_at hh]
   have := hcc j w hj
   rw [Nat.add_mul] at this
   have e : base + o * r.u.size + (i * r.u.size + j) = base + (o * r.u.size + i * r.u.size) + j := by omega
   rw [e]
   exact this
theorem deepen_rel {B : Nat} {s : S4} (h : MemOk B s) : ∀ {u : U} {v : V} {x : u.T} {cs : List Value}, deepen s.H u v = some x → RelC s v cs → RelD s.W (Iv s v) u x cs := by
 intro u v
 induction v generalizing u with
 | d u' y =>
  intro x cs hd hr
  simp only [RelC] at hr
  have hd : castT u y = some x := by cases u <;> simpa [deepen] using hd
  obtain ⟨e, he⟩ := castT_some hd
  subst e
  have he : y = x := by simpa using he
  subst he
  exact hr.mono (fun _ hb => .inl hb) (fun _ _ => rfl)
 | cons va vb iha ihb =>
  intro x cs hd hr
  cases u <;> try (simp [deepen] at hd; done)
  rename_i a b
  simp only [RelC] at hr
  obtain ⟨c1, c2, rfl, h1, h2⟩ := hr
  simp only [deepen] at hd
  cases hx : deepen s.H a va with
  | none => rw [hx] at hd; cases hd
  | some y =>
   cases hz : deepen s.H b vb with
   | none => rw [hx] at hd; simp only [hz] at hd; cases hd
   | some z =>
    rw [hx] at hd
    simp only [hz] at hd
    injection hd with hd
    subst hd
    refine ⟨c1, c2, rfl, (iha hx h1).mono ?_ (fun _ _ => rfl), (ihb hz h2).mono ?_ (fun _ _ => rfl)⟩
    ·rintro b (hb | ⟨k, r, base, hk, hr⟩)
     ·exact .inl hb
     ·exact .inr ⟨k, r, base, by simp [V.rows, hk], hr⟩
    ·rintro b (hb | ⟨k, r, base, hk, hr⟩)
     ·exact .inl hb
     ·exact .inr ⟨k, r, base, by simp [V.rows, hk], hr⟩
 | nil =>
  intro x cs hd hr
  simp only [RelC] at hr
  subst hr
  cases u <;> try (simp [deepen] at hd; done)
  rfl
 | nilsl =>
  intro x cs hd hr
  simp only [RelC] at hr
  subst hr
  cases u <;> try (simp [deepen] at hd; done)
  simp only [deepen] at hd
  injection hd with hd
  subst hd
  exact ⟨_, rfl, none, 0, rfl, Nat.le_refl _, fun i x hi => by simp at hi⟩
 | dfull u' xs =>
  intro x cs hd hr
  cases u <;> try (simp [deepen] at hd; done)
  simp only [RelC] at hr
  simp only [deepen] at hd
  obtain ⟨e, he⟩ := castT_some hd
  injection e with e
  subst e
  have he : xs = x := by simpa using he
  subst he
  exact hr.1.mono (fun _ hb => .inl hb) (fun _ _ => rfl)
 | row k =>
  intro x cs hd hr
  cases u <;> try (simp [deepen] at hd; done)
  simp only [RelC] at hr
  obtain ⟨_, v, rfl, _, hv⟩ := hr
  simp only [deepen] at hd
  cases hk : s.H.row k with
  | none => rw [hk] at hd; cases hd
  | some r =>
   rw [hk] at hd
   simp only at hd
   obtain ⟨e, he⟩ := castT_some hd
   injection e with e
   subst e
   have he : r.xs = x := by simpa using he
   subst he
   have := row_slice h hk (o := 0) (n := r.xs.length) (by omega) (hv _ (geo_row hk)) (J := Iv s (.row k)) (fun _ hb => .inl hb) (fun b base hp => .inr ⟨k, r, base, by simp [V.rows], hk, hp⟩)
   simpa using this
 | rsub k o n =>
  intro x cs hd hr
  cases u <;> try (simp [deepen] at hd; done)
  simp only [RelC] at hr
  obtain ⟨_, v, rfl, _, hv⟩ := hr
  simp only [deepen] at hd
  cases hk : s.H.row k with
  | none => rw [hk] at hd; cases hd
  | some r =>
   rw [hk] at hd
   simp only at hd
   obtain ⟨e, he⟩ := castT_some hd
   injection e with e
   subst e
   have he : (r.xs.drop o).take n = x := by simpa using he
   subst he
   obtain ⟨g1, g2⟩ := hv _ (geo_row hk)
   exact row_slice h hk g1 g2 (J := Iv s (.rsub k o n)) (fun _ hb => .inl hb) (fun b base hp => .inr ⟨k, r, base, by simp [V.rows], hk, hp⟩)
 | fn f a b _ _ =>
  intro x cs hd hr
  cases u <;> try (simp [deepen] at hd; done)
  cases a <;> try (simp [deepen] at hd; done)
  cases b <;> try (simp [deepen] at hd; done)
  simp only [deepen] at hd
  injection hd with hd
  subst hd
  simp only [RelC] at hr
  rcases hr with ⟨hb, _⟩ | ⟨l, m, rfl, h1, h2⟩
  ·cases hb
  ·simp only [RelL] at h1 h2
   subst h1 h2
   rfl
 | _ => intro x cs hd hr; cases u <;> simp [deepen] at hd
theorem freeze_ok {B : Nat} : ∀ (ks : List Nat) {s : S4}, MemOk B s → ∃ t : S4, t.H = s.H.freeze ks ∧ t.W = s.W ∧ t.U = s.U ∧ t.ρ = s.ρ ∧ MemOk B t ∧ Ext B s t ∧ ∀ k ∈ ks, ∀ r b base, s.H.row k = some r → s.ρ.row k = some (b, base) → t.I b := by
 intro ks
 induction ks with
 | nil => intro s h; exact ⟨s, rfl, rfl, rfl, rfl, h, Ext.refl B s, fun k hk => by cases hk⟩
 | cons k ks ih =>
  intro s h
  cases hk : s.H.row k with
  | none =>
   obtain ⟨t, h1, h2, h3, h4, h5, h6, h7⟩ := ih h
   refine ⟨t, by simp only [HF.freeze, hk]; exact h1, h2, h3, h4, h5, h6, fun j hj r b base hr hp => ?_⟩
   rcases List.mem_cons.1 hj with rfl | hj
   ·rw [hk] at hr; cases hr
   ·exact h7 j hj r b base hr hp
  | some r =>
   obtain ⟨t, h1, h2, h3, h4, h5, h6, h7⟩ := ih (memOk_frz h hk)
   refine ⟨t, by simp only [HF.freeze, hk]; exact h1, h2, h3, h4, h5, (ext_frz h hk).trans h6, fun j hj r' b base hr hp => ?_⟩
   rcases List.mem_cons.1 hj with rfl | hj
   ·exact h6.i b (.inr ⟨base, hp⟩)
   ·by_cases e : j = k
    ·subst e
     exact h6.i b (.inr ⟨base, hp⟩)
    ·exact h7 j hj r' b base (by simp [S4.frz, HF.setRow, nbeq e, hr]) hp
theorem relV_sl {s : S4} {u : U} {xs : List u.T} {x : Value} (h : RelV s (.d (.sl u) xs) x) : SlD s.W s.I (RelD s.W s.I u) u.size xs x := by
 obtain ⟨cs, h1, h2⟩ := h.get (by intro h; cases h) (by intro w h; cases h)
 simp only [RelC] at h1
 obtain ⟨v, rfl, hv⟩ := h1
 rw [isVal_one h2 rfl]
 exact hv
theorem relV_dfull {s : S4} {u : U} {xs : List u.T} {x : Value} (h : RelV s (.dfull u xs) x) : SlD s.W s.I (RelD s.W s.I u) u.size xs x ∧ ∃ A, x = .slice A xs.length xs.length := by
 obtain ⟨cs, h1, h2⟩ := h.get (by intro h; cases h) (by intro w h; cases h)
 simp only [RelC] at h1
 obtain ⟨⟨v, rfl, hv⟩, A, hA⟩ := h1
 rw [isVal_one h2 rfl]
 injection hA with hA
 exact ⟨hv, A, hA⟩
theorem relV_row {s : S4} {k : Nat} {x : Value} (h : RelV s (.row k) x) : s.U k ∧ x.oneCell' = true ∧ ∀ r, s.H.row k = some r → RowV s.W (s.ρ.row k) r.u.size 0 r.xs.length x := by
 obtain ⟨cs, h1, h2⟩ := h.get (by intro h; cases h) (by intro w h; cases h)
 simp only [RelC] at h1
 obtain ⟨hu, v, rfl, h3, h4⟩ := h1
 rw [isVal_one h2 rfl]
 exact ⟨hu, h3, fun r hr => h4 _ (geo_row hr)⟩
theorem relV_rowG {s : S4} {k : Nat} {x : Value} (h : RelV s (.row k) x) : s.U k ∧ x.oneCell' = true ∧ ∀ r, s.H.geo k = some r → RowV s.W (s.ρ.row k) r.u.size 0 r.n x := by
 obtain ⟨cs, h1, h2⟩ := h.get (by intro h; cases h) (by intro w h; cases h)
 simp only [RelC] at h1
 obtain ⟨hu, v, rfl, h3, h4⟩ := h1
 rw [isVal_one h2 rfl]
 exact ⟨hu, h3, h4⟩
theorem relV_rsub {s : S4} {k o n : Nat} {x : Value} (h : RelV s (.rsub k o n) x) : s.U k ∧ x.oneCell' = true ∧ ∀ r, s.H.row k = some r → o + n ≤ r.xs.length ∧ RowV s.W (s.ρ.row k) r.u.size o n x := by
 obtain ⟨cs, h1, h2⟩ := h.get (by intro h; cases h) (by intro w h; cases h)
 simp only [RelC] at h1
 obtain ⟨hu, v, rfl, h3, h4⟩ := h1
 rw [isVal_one h2 rfl]
 exact ⟨hu, h3, fun r hr => h4 _ (geo_row hr)⟩
theorem elem_size {P : Program} {e : Nat} {u : U} {b : Nat} (h : ElemFact P e u b) (W : World) : (sizeOf e).run P W = .ok u.size W := by
 obtain ⟨i, z, h1, h2, _⟩ := h.info
 simp [sizeOf, typeInfo, h1, h2]
theorem run_indexAt_slice {P : Program} {t e : Nat} {u : U} {bt : Nat} (h1 : P.underlying t = some (.slice e)) (h2 : ElemFact P e u bt) (W : World) (a : Addr) (n c : Nat) (k : IntKind) (i : Int) (hi0 : 0 ≤ i) (hi : i < n) :
  (Instr.indexAt t (.slice (some a) n c) (.int k i)).run P W = .ok (.pointer (some (a.add (i.toNat * u.size)))) W := by
 simp [Instr.indexAt, asIntOf, underlying, h1, hi0, hi, elem_size h2]
theorem run_indexAt_array {P : Program} {t e n : Nat} {u : U} {bt : Nat} (h1 : P.underlying t = some (.array n e)) (h2 : ElemFact P e u bt) (W : World) (a : Addr) (k : IntKind) (i : Int) (hi0 : 0 ≤ i) (hi : i < n) :
  (Instr.indexAt t (.pointer (some a)) (.int k i)).run P W = .ok (.pointer (some (a.add (i.toNat * u.size)))) W := by
 simp [Instr.indexAt, asIntOf, underlying, h1, hi0, hi, elem_size h2, Instr.sureAddr]
theorem asInt_some {v : V} {n : Int} (h : asInt v = some n) : ∃ k, v = .d (.int k) n := by
 unfold asInt at h
 split at h
 ·injection h with h
  subst h
  exact ⟨_, rfl⟩
 ·cases h
theorem within_to {i n : Int} {r : Res} {v : V} {H : HF} (h : (within i n r).to v H) : 0 ≤ i ∧ i < n ∧ r.to v H := by
 unfold within at h
 rcases h with ⟨h1, h | h⟩ | ⟨_, h⟩
 ·exact ⟨of_decide_eq_true h1, of_decide_eq_true h.1, h.2⟩
 ·exact h.2.elim
 ·exact h.elim
theorem sl_elem {s : S4} {u : U} {xs : List u.T} {x : Value} (h : SlD s.W s.I (RelD s.W s.I u) u.size xs x) {i : Int} (h0 : 0 ≤ i) (hi : i < xs.length) :
  ∃ ad n c, x = .slice (some ad) n c ∧ n = xs.length ∧ RelV s (.pdeep u (xs.getD i.toNat u.zero)) (.pointer (some (ad.add (i.toNat * u.size)))) := by
 obtain ⟨A, cap, rfl, hn, hx⟩ := h
 have hlt : i.toNat < xs.length := by omega
 obtain ⟨ad, c, rfl, hI, hr, hc, hcc⟩ := hx i.toNat _ (getD_of hlt)
 refine ⟨ad, _, cap, rfl, rfl, .inr ⟨[_], relT_of ?_, rfl⟩⟩
 simp only [RelC]
 refine ⟨_, c, rfl, by rw [add_block]; exact hI, hr, fun j w hj => ?_⟩
 have e : (ad.add (i.toNat * u.size)).add j = ad.add (i.toNat * u.size + j) := by
  unfold Addr.add
  by_cases h1 : i.toNat * u.size = 0 <;> by_cases h2 : j = 0 <;> simp [h1, h2, Nat.add_assoc]
 rw [e]
 exact hcc j w hj
theorem row_elem {s : S4} {k : Nat} {r : Geo} (hr : s.H.geo k = some r) {o n : Nat} (hu : s.U k) (hon : o + n ≤ r.n) {x : Value} (h : RowV s.W (s.ρ.row k) r.u.size o n x) {i : Int} (h0 : 0 ≤ i) (hi : i < n) :
  ∃ ad m c, x = .slice (some ad) m c ∧ m = n ∧ RelV s (.prow k (o + i.toNat) []) (.pointer (some (ad.add (i.toNat * r.u.size)))) := by
 obtain ⟨A, cap, rfl, hn, hc⟩ := h
 rcases hc with hc | ⟨b, base, hp, rfl, hs⟩
 ·omega
 ·refine ⟨_, _, cap, rfl, rfl, .inr ⟨[_], relT_of ?_, rfl⟩⟩
  simp only [RelC]
  refine ⟨hu, _, rfl, rfl, fun r' hr' => ?_⟩
  rw [hr] at hr'
  injection hr' with hr'
  subst hr'
  refine ⟨b, base, 0, hp, by omega, off_nil, ?_⟩
  rw [addr_add, Nat.add_mul]
  simp [Nat.add_assoc]
theorem fnsV_sk : ∀ n, (fnsV n).sk = (fnsU n).sk
 | 0 => rfl
 | n + 1 => by simp only [fnsV, fnsU, V.sk, U.sk, fnsV_sk n]
theorem fnsV_rel {s : S4} : ∀ n, RelC s (fnsV n) (List.replicate n [Value.nilFunc]).flatten
 | 0 => by simp [fnsV, RelC]
 | n + 1 => by
  simp only [fnsV, RelC]
  exact ⟨[.nilFunc], _, by rw [List.replicate_succ, List.flatten_cons], rfl, fnsV_rel n⟩
theorem fns_off : ∀ {n f o : Nat}, (fnsU n).off [.fld f] = some o → f < n ∧ o = f ∧ dcode (fnsU n) [.fld f] = some .fn
 | 0, f, o, h => by simp [fnsU, U.off] at h
 | n + 1, 0, o, h => by
  simp [fnsU, U.off] at h
  exact ⟨by omega, h.symm, by simp [fnsU, dcode]⟩
 | n + 1, f + 1, o, h => by
  simp only [fnsU, U.off] at h
  split at h
  ·rename_i o' ho
   injection h with h
   obtain ⟨h1, h2, h3⟩ := fns_off ho
   refine ⟨by omega, by subst h2; rw [← h]; simp [U.size]; omega, ?_⟩
   simp only [fnsU, dcode]
   exact h3
  ·cases h
theorem fns_at : ∀ {n j : Nat}, j < n → (fnsU n).off [.fld j] = some j
 | n + 1, 0, _ => rfl
 | n + 1, j + 1, h => by
  simp only [fnsU, U.off, fns_at (n := n) (j := j) (by omega), U.size]
  rw [Nat.add_comm]
theorem selP_to {H H' : HF} {k : Nat} {p : List Step} {i : Int} {v : V} : ∀ {n j : Nat}, (selP H k p i n j).to v H' → H' = H ∧ ∃ q, q < n ∧ i = ((j + q : Nat) : Int) ∧ v = .pvar k (p ++ [.fld (j + q)])
 | 0, j, h => h.elim
 | n + 1, j, h => by
  simp only [selP] at h
  rcases h with ⟨h1, h2⟩ | ⟨_, h2⟩
  ·obtain ⟨rfl, rfl⟩ := h2
   have h1 : i = (j : Int) := by simpa using h1
   exact ⟨rfl, 0, by omega, by simpa using h1, rfl⟩
  ·obtain ⟨h3, q, h4, h5, h6⟩ := selP_to h2
   exact ⟨h3, q + 1, by omega, by omega, by rw [h6, show j + 1 + q = j + (q + 1) by omega]⟩
theorem indexV_ok {P : Program} {E : TE} (hE : TEok P E) {B : Nat} {s : S4} (h : MemOk B s) {t : Nat} {k : IntKind} {i : Int} {v v' : V} {H' : HF} {x : Value} (hx : RelV s v x) (hto : (indexV E s.H t v i).to v' H') :
  H' = s.H ∧ ∃ y, (Instr.indexAt t x (.int k i)).run P s.W = .ok y s.W ∧ RelV s v' y := by
 unfold indexV at hto
 split at hto
 ·rename_i u hu
  obtain ⟨e, h1, h2⟩ := hE.elem t u hu
  split at hto
  ·rename_i u' xs
   split at hto
   ·rename_i ys hy
    obtain ⟨e1, e2⟩ := castT_some hy
    injection e1 with e1
    subst e1
    have e2 : xs = ys := by simpa using e2
    subst e2
    obtain ⟨g0, g1, rfl, rfl⟩ := within_to hto
    obtain ⟨ad, n, c, rfl, rfl, hp⟩ := sl_elem (relV_sl hx) g0 g1
    exact ⟨rfl, _, run_indexAt_slice h1 h2 s.W ad _ c k i g0 g1, hp⟩
   ·cases hto
  ·rename_i u' xs
   split at hto
   ·rename_i ys hy
    obtain ⟨e1, e2⟩ := castT_some hy
    injection e1 with e1
    subst e1
    have e2 : xs = ys := by simpa using e2
    subst e2
    obtain ⟨g0, g1, rfl, rfl⟩ := within_to hto
    obtain ⟨ad, n, c, rfl, rfl, hp⟩ := sl_elem (relV_dfull hx).1 g0 g1
    exact ⟨rfl, _, run_indexAt_slice h1 h2 s.W ad _ c k i g0 g1, hp⟩
   ·cases hto
  ·rename_i kk
   split at hto
   ·rename_i r hr
    split at hto
    ·rename_i hq
     have hq := of_decide_eq_true hq
     obtain ⟨g0, g1, rfl, rfl⟩ := within_to hto
     obtain ⟨a1, a2, a3⟩ := relV_rowG hx
     obtain ⟨ad, m, c, rfl, rfl, hp⟩ := row_elem hr a1 (by omega) (a3 r hr) g0 g1
     rw [Nat.zero_add] at hp
     exact ⟨rfl, _, run_indexAt_slice h1 (hq ▸ h2) s.W ad _ c k i g0 g1, hp⟩
    ·cases hto
   ·cases hto
  ·rename_i kk o n
   split at hto
   ·rename_i r hr
    split at hto
    ·rename_i hq
     have hq := of_decide_eq_true hq
     obtain ⟨g0, g1, rfl, rfl⟩ := within_to hto
     obtain ⟨a1, a2, a3⟩ := relV_rsub hx
     obtain ⟨ad, m, c, rfl, rfl, hp⟩ := row_elem (geo_row hr) a1 (a3 r hr).1 (a3 r hr).2 g0 g1
     exact ⟨rfl, _, run_indexAt_slice h1 (hq ▸ h2) s.W ad _ c k i g0 g1, hp⟩
    ·cases hto
   ·cases hto
  ·rename_i kk q j n
   unfold indexD at hto
   split at hto
   ·rename_i v2 r2 xs q' hcv
    split at hto
    ·rename_i hq
     simp only [Bool.and_eq_true, decide_eq_true_eq] at hq
     obtain ⟨e1, rfl⟩ := hq
     have e1 := nat_beq e1
     subst e1
     obtain ⟨g0, g1, hto⟩ := within_to hto
     rcases hto with ⟨hj, rfl, rfl⟩ | ⟨_, hto⟩
     ·have hj := blt_lt hj
      obtain ⟨hU, A, len, cap, f1, rfl, f2, f3⟩ := dsl_at hx
      obtain ⟨_, _, _, _, base, cs, ty, hp, hb, hsz, hel⟩ := drow_at h hcv
      obtain ⟨_, ⟨A', cap', d2, d3, d4⟩, _⟩ := hel j _ (List.getElem?_eq_getElem hj) (by intro h; cases h)
      rw [f1] at d2
      injection d2 with d2 d5 d6
      subst d5 d6 d2
      rcases d4 with d4 | ⟨b', o', cur, t', rfl, _⟩
      ·omega
      ·refine ⟨rfl, _, run_indexAt_slice h1 h2 s.W _ _ _ k i g0 g1, ?_⟩
       rw [addr_add]
       exact dpi_relV hU f1 (by omega)
     ·cases hto
    ·cases hto
   ·cases hto
  ·cases hto
 ·split at hto
  ·rename_i m u hu
   obtain ⟨e, bt, h1, h2⟩ := hE.aelem t m u hu
   split at hto
   ·rename_i n u' xs
    split at hto
    ·rename_i hq
     simp only [Bool.and_eq_true] at hq
     have hq1 := of_decide_eq_true hq.1
     have hq2 := nat_beq hq.2
     subst hq1 hq2
     obtain ⟨g0, g1, rfl, rfl⟩ := within_to hto
     obtain ⟨ad, c, rfl, hI, hc, hcc⟩ := pdeep_at hx
     refine ⟨rfl, _, run_indexAt_array h1 h2 s.W ad k i g0 g1, .inr ⟨[_], relT_of ?_, rfl⟩⟩
     obtain ⟨c1, c2, c3⟩ := hc
     simp only [RelC]
     refine ⟨_, _, rfl, by rw [add_block]; exact hI, c3 i.toNat _ (getD_of (by omega)), fun j w hj => ?_⟩
     rw [List.getElem?_take] at hj
     split at hj
     ·rw [List.getElem?_drop] at hj
      have e : (ad.add (i.toNat * u'.size)).add j = ad.add (i.toNat * u'.size + j) := by
       unfold Addr.add
       by_cases h1 : i.toNat * u'.size = 0 <;> by_cases h2 : j = 0 <;> simp [h1, h2, Nat.add_assoc]
      rw [e]
      exact hcc _ w hj
     ·cases hj
    ·cases hto
   ·rename_i kk p
    split at hto
    ·rename_i c hc
     split at hto
     ·rename_i n u' xs hg
      split at hto
      ·rename_i hq
       simp only [Bool.and_eq_true] at hq
       have hq1 := of_decide_eq_true hq.1
       have hq2 := nat_beq hq.2
       subst hq1 hq2
       obtain ⟨g0, g1, rfl, rfl⟩ := within_to hto
       have hx0 := hx
       obtain ⟨o, cs, t', rfl, ho, hb, hr⟩ := pvar_at h hx hc
       obtain ⟨d1, d2⟩ := get_rel hg hr ho
       refine ⟨rfl, _, run_indexAt_array h1 h2 s.W _ k i g0 g1, ?_⟩
       rw [addr_add]
       obtain ⟨cs', hr', _⟩ := hx0.get (by intro h; cases h) (by intro w h; cases h)
       simp only [RelC] at hr'
       refine .inr ⟨[_], relT_of ?_, rfl⟩
       simp only [RelC]
       refine ⟨hr'.1, _, rfl, rfl, fun c' hc' => ?_⟩
       rw [hc] at hc'
       injection hc' with hc'
       subst hc'
       refine ⟨(hr'.2.choose_spec.2.2 c hc).1, o + i.toNat * u'.size, off_append d1 ho ?_, rfl⟩
       simp only [V.sk, U.sk, U.off, off_nil, U.sk_size]
       rw [if_pos (by omega)]
       simp
      ·cases hto
     ·rename_i w hnw hg
      split at hto
      ·rename_i hq
       simp only [Bool.and_eq_true] at hq
       have hq1 := of_decide_eq_true hq.1
       have hq2 := of_decide_eq_true hq.2
       subst hq1
       obtain ⟨rfl, q, hqm, rfl, rfl⟩ := selP_to hto
       rw [Nat.zero_add]
       have hx0 := hx
       obtain ⟨o, cs, t', rfl, ho, hb, hr⟩ := pvar_at h hx hc
       obtain ⟨d1, d2⟩ := get_rel hg hr ho
       refine ⟨rfl, _, run_indexAt_array h1 h2 s.W _ k (q : Int) (by omega) (by omega), ?_⟩
       rw [addr_add]
       obtain ⟨cs', hr', _⟩ := hx0.get (by intro h; cases h) (by intro w h; cases h)
       simp only [RelC] at hr'
       refine .inr ⟨[_], relT_of ?_, rfl⟩
       simp only [RelC]
       refine ⟨hr'.1, _, rfl, rfl, fun c' hc' => ?_⟩
       rw [hc] at hc'
       injection hc' with hc'
       subst hc'
       refine ⟨(hr'.2.choose_spec.2.2 c hc).1, o + q, off_append d1 ho ?_, by simp [U.size]⟩
       rw [hq2, sk_off]
       exact fns_at hqm
      ·cases hto
     ·cases hto
    ·cases hto
   ·rename_i kk j p
    split at hto
    ·rename_i r hr
     split at hto
     ·rename_i n u' hd
      split at hto
      ·rename_i hq
       simp only [Bool.and_eq_true] at hq
       have hq1 := of_decide_eq_true hq.1
       have hq2 := nat_beq hq.2
       subst hq1 hq2
       obtain ⟨g0, g1, rfl, rfl⟩ := within_to hto
       have hx0 := hx
       obtain ⟨b, base, o, cur, t', c, rfl, hp, hi, ho, hb, hsz, hc, hcc⟩ := prow_at h hx hr
       refine ⟨rfl, _, run_indexAt_array h1 h2 s.W _ k i g0 g1, ?_⟩
       rw [addr_add]
       obtain ⟨cs', hr', _⟩ := hx0.get (by intro h; cases h) (by intro w h; cases h)
       simp only [RelC] at hr'
       refine .inr ⟨[_], relT_of ?_, rfl⟩
       simp only [RelC]
       refine ⟨hr'.1, _, rfl, rfl, fun r' hr' => ?_⟩
       rw [geo_row hr] at hr'
       injection hr' with hr'
       subst hr'
       refine ⟨b, base, o + i.toNat * u'.size, hp, hi, off_append hd ho ?_, by rw [Nat.add_assoc]⟩
       simp only [U.off, off_nil]
       rw [if_pos (by omega)]
       simp
      ·cases hto
     ·cases hto
    ·cases hto
   ·cases hto
  ·cases hto
theorem lenV_ok {s : S4} {v : V} {n : Int} {x : Value} (hx : RelV s v x) (h : lenV s.H v = some n) : ∃ A m c, x = .slice A m c ∧ n = (m : Int) ∧ m ≤ c := by
 unfold lenV at h
 split at h
 ·injection h with h
  obtain ⟨A, cap, rfl, hn, _⟩ := relV_sl hx
  exact ⟨A, _, cap, rfl, h.symm, hn⟩
 ·injection h with h
  obtain ⟨_, A, rfl⟩ := relV_dfull hx
  exact ⟨A, _, _, rfl, h.symm, Nat.le_refl _⟩
 ·injection h with h
  obtain ⟨cs, h1, h2⟩ := hx.get (by intro h; cases h) (by intro w h; cases h)
  simp only [RelC] at h1
  subst h1
  rw [isVal_one h2 rfl]
  exact ⟨none, 0, 0, rfl, h.symm, Nat.le_refl _⟩
 ·rename_i k
  split at h
  ·rename_i r hr
   injection h with h
   obtain ⟨_, _, h3⟩ := relV_row hx
   obtain ⟨A, cap, rfl, hn, _⟩ := h3 r hr
   exact ⟨A, _, cap, rfl, h.symm, hn⟩
  ·cases h
 ·rename_i k o m
  split at h
  ·rename_i r hr
   injection h with h
   obtain ⟨_, _, h3⟩ := relV_rsub hx
   obtain ⟨A, cap, rfl, hn, _⟩ := (h3 r hr).2
   exact ⟨A, _, cap, rfl, h.symm, hn⟩
  ·cases h
 ·injection h with h
  obtain ⟨_, A, len, cap, _, rfl, h1, h2⟩ := dsl_at hx
  exact ⟨A, _, cap, rfl, h.symm, by omega⟩
 ·cases h
end Go.Proofs.YtdokfjkihjkcmaaGreatDoor.Den

/- Operations that write: store, append; slices cut. -/
namespace Go.Proofs.YtdokfjkihjkcmaaGreatDoor.Den
open Go Go.RowKit
set_option linter.unusedVariables false
def ValOk (B : Nat) (s : S4) (key : Nat) (run : Result Value) (v : V) (H' : HF) : Prop :=
 ∃ t : S4, t.H = H' ∧ MemOk B t ∧ Ext B s t ∧ (∀ k, t.U k → s.U k ∨ (key ≤ k ∧ k < key + 16)) ∧ ∃ x, run = .ok x t.W ∧ RelV t v x
def UnitOk (B : Nat) (s : S4) (key : Nat) (run : Result Unit) (H' : HF) : Prop :=
 ∃ t : S4, t.H = H' ∧ MemOk B t ∧ Ext B s t ∧ (∀ k, t.U k → s.U k ∨ (key ≤ k ∧ k < key + 16)) ∧ run = .ok () t.W
theorem ValOk.same {B : Nat} {s : S4} (h : MemOk B s) {key : Nat} {run : Result Value} {v : V} {x : Value} (hr : run = .ok x s.W) (hv : RelV s v x) : ValOk B s key run v s.H :=
 ⟨s, rfl, h, Ext.refl B s, fun k hk => .inl hk, x, hr, hv⟩
theorem freeze_row {k : Nat} : ∀ (ks : List Nat) (H : HF), k ∉ ks → (H.freeze ks).row k = H.row k
 | [], _, _ => rfl
 | j :: ks, H, h => by
  have hk : k ≠ j := fun e => h (by simp [e])
  have hks : k ∉ ks := fun e => h (by simp [e])
  simp only [HF.freeze]
  split
  ·rw [freeze_row ks _ hks]
   simp [HF.setRow, nbeq hk]
  ·exact freeze_row ks _ hks
theorem freeze_var : ∀ (ks : List Nat) (H : HF), (H.freeze ks).var = H.var
 | [], _ => rfl
 | j :: ks, H => by
  simp only [HF.freeze]
  split
  ·rw [freeze_var ks]; rfl
  ·exact freeze_var ks _
theorem freeze_nx : ∀ (ks : List Nat) (H : HF), (H.freeze ks).nx = H.nx
 | [], _ => rfl
 | j :: ks, H => by
  simp only [HF.freeze]
  split
  ·rw [freeze_nx ks]; rfl
  ·exact freeze_nx ks _
theorem cell_not {v : V} (h : v.cell = true) : v ≠ .undef ∧ ∀ w, v ≠ .tup w := by
 constructor
 ·rintro rfl; cases h
 ·rintro w rfl; cases h
theorem deepen_noY {H : HF} {u : U} {v : V} {x : u.T} (h : deepen H u v = some x) : v.isY = false := by
 unfold V.isY
 split
 ·cases u <;> simp [deepen] at h
 ·rfl
theorem cell_noY {v : V} (h : v.cell = true) : v.isY = false := by
 unfold V.isY
 split
 ·cases h
 ·rfl
def S4.punch (s : S4) (W' : World) (k b : Nat) (c : V) : S4 := { s with W := W', H := (s.H.delRow k).setVar k c, ρ := { s.ρ with var := fun j => if j = k then b else s.ρ.var j } }
theorem punch_var {s : S4} {W' : World} {k b : Nat} {c : V} {l : Nat} {d : V} (h : (s.punch W' k b c).H.var l = some d) : (l = k ∧ d = c) ∨ (l ≠ k ∧ s.H.var l = some d) := by
 by_cases e : l = k
 ·subst e
  simp [S4.punch, HF.setVar] at h
  exact .inl ⟨rfl, h.symm⟩
 ·simp [S4.punch, HF.setVar, HF.delRow, nbeq e] at h
  exact .inr ⟨e, h⟩
theorem punch_row {s : S4} {W' : World} {k b : Nat} {c : V} {l : Nat} {r : Row} (h : (s.punch W' k b c).H.row l = some r) : l ≠ k ∧ s.H.row l = some r := by
 by_cases e : l = k
 ·subst e
  simp [S4.punch, HF.setVar, HF.delRow] at h
 ·simp [S4.punch, HF.setVar, HF.delRow, nbeq e] at h
  exact ⟨e, h⟩
theorem row_own {B : Nat} {s : S4} (h : MemOk B s) {k : Nat} {r : Row} (hk : s.H.row k = some r) (hr : r.w = true) {b base : Nat} (hp : s.ρ.row k = some (b, base)) :
  s.U k ∧ 0 < r.u.size ∧ B ≤ b ∧ ¬ s.I b ∧ ∃ cur t, s.W.heap[b]? = some (.cells cur t (0, 0)) ∧ base + r.xs.length * r.u.size ≤ cur.size ∧ ∀ (i : Nat) (x : r.u.T), r.xs[i]? = some x → ∃ c, RelD s.W s.I r.u x c ∧ ∀ (j : Nat) (v : Value), c[j]? = some v → cur[base + i * r.u.size + j]? = some v := by
 obtain ⟨h1, h2, h3⟩ := h.row k r hk
 rcases h3 with h3 | ⟨b', base', cur, t, e, hh, hw', hf, hs, hx⟩
 ·rw [h3.2] at hp; cases hp
 rw [hp] at e
 injection e with e
 injection e with e1 e2
 subst e1 e2
 exact ⟨h1, h2, (hw' hr).1, (hw' hr).2, cur, t, hh, hs, hx⟩
theorem ext_punch {B : Nat} {s : S4} (h : MemOk B s) {k : Nat} {r : Row} {W' : World} {cs : Array Value} {b base i : Nat} {w : V} (hk : s.H.row k = some r) (hr : r.w = true) (hp : s.ρ.row k = some (b, base)) (hw : WSet s.W W' b cs) :
  Ext B s (s.punch W' k b (.hrow k r.u r.xs i w)) := by
 obtain ⟨g1, g2, g3, g4, _⟩ := row_own h hk hr hp
 exact {
  i := fun _ h => h
  inew := fun _ h => .inl h
  w := fun x hx => .eq (hw.other x (fun e => g4 (e ▸ hx))) rfl
  below := hw.below g3
  u := fun _ h => h
  nx := Nat.le_refl _
  var := fun l d hl hd => by
   obtain ⟨hd, h1⟩ := pv_var hd
   rcases punch_var hd with ⟨rfl, rfl⟩ | ⟨hne, hd⟩
   ·cases h1
   ·exact ⟨d, var_pv hd h1, rfl, by simp [S4.punch, hne]⟩
  row := fun l g hl hg => by
   refine ⟨?_, fun b _ _ => hw.bsize b⟩
   by_cases e : l = k
   ·subst e
    have h1 : (s.punch W' l b (.hrow l r.u r.xs i w)).H.row l = none := by simp [S4.punch, HF.setVar, HF.delRow]
    have h2 : (s.punch W' l b (.hrow l r.u r.xs i w)).H.var l = some (.hrow l r.u r.xs i w) := by simp [S4.punch, HF.setVar]
    unfold HF.geo at hg
    rw [h1, h2] at hg
    rw [geo_row hk]; exact hg
   ·have hv : (s.punch W' k b (.hrow k r.u r.xs i w)).H.row l = s.H.row l := by simp [S4.punch, HF.setVar, HF.delRow, nbeq e]
    have hv2 : (s.punch W' k b (.hrow k r.u r.xs i w)).H.var l = s.H.var l := by simp [S4.punch, HF.setVar, HF.delRow, nbeq e]
    rw [← geo_eq (H := s.H) (H2 := (s.punch W' k b (.hrow k r.u r.xs i w)).H) hv hv2]; exact hg
  pl := fun _ _ => rfl }
theorem memOk_punch {B : Nat} {s : S4} (h : MemOk B s) {k : Nat} {r : Row} {W' : World} {cs : Array Value} {b base i : Nat} {w : V} (hk : s.H.row k = some r) (hr : r.w = true) (hp : s.ρ.row k = some (b, base)) (hw : WSet s.W W' b cs)
  (hi : i < r.xs.length) (hsk : w.sk = r.u.sk) (hc : ∃ c, RelC s w c ∧ c.length = r.u.size ∧ ∀ (n : Nat) (v : Value), c[n]? = some v → cs[base + i * r.u.size + n]? = some v)
  (ho : ∀ (j : Nat) (x : r.u.T), j ≠ i → r.xs[j]? = some x → ∃ c, RelD s.W s.I r.u x c ∧ ∀ (n : Nat) (v : Value), c[n]? = some v → cs[base + j * r.u.size + n]? = some v) : MemOk B (s.punch W' k b (.hrow k r.u r.xs i w)) := by
 have e := ext_punch h (i := i) (w := w) hk hr hp hw
 obtain ⟨g1, g2, g3, g4, cur, t, g5, g6, g7⟩ := row_own h hk hr hp
 have ρk : (s.punch W' k b (.hrow k r.u r.xs i w)).ρ.var k = b := by simp [S4.punch]
 have ρo : ∀ l, l ≠ k → (s.punch W' k b (.hrow k r.u r.xs i w)).ρ.var l = s.ρ.var l := fun l hl => by simp [S4.punch, hl]
 obtain ⟨cs0, t0, q1, q2, q3⟩ := hw.here
 rw [g5] at q1
 injection q1 with q1
 injection q1 with q1 q1' _
 subst q1 q1'
 have hdj : DJ B (s.punch W' k b (.hrow k r.u r.xs i w)) := by
  refine h.dj.mono e (fun l v r2 xs q ho hl => ?_) (fun k' i' b' hi' ht => ?_) (fun k' i' b' hi' => ?_)
  ·rcases punch_var hl with ⟨_, hl⟩ | ⟨hne, hl⟩
   ·cases hl
   ·exact ⟨hl, ρo l hne, hw.other _ (h.vr l k _ r b base hl hk hr hp)⟩
  ·rcases ht with ht | ⟨l, d, hl, hb⟩ | ⟨l, d, base', hl, hw', hb⟩
   ·exact .inl ht
   ·rcases punch_var hl with ⟨rfl, rfl⟩ | ⟨hne, hl⟩
    ·rw [ρk] at hb
     subst hb
     exact .inr (.inr ⟨l, r, base, hk, hr, hp⟩)
    ·rw [ρo l hne] at hb
     exact .inr (.inl ⟨l, d, hl, hb⟩)
   ·exact .inr (.inr ⟨l, d, base', (punch_row hl).2, hw', hb⟩)
  ·exact hw.other b' fun e => (h.dj.inlt hi').2.2 (.inr (.inr ⟨k, r, base, hk, hr, e ▸ hp⟩))
 refine ⟨fun b hb => by show b < W'.heap.size; rw [hw.size]; exact h.ilt b hb, by show B ≤ W'.heap.size; rw [hw.size]; exact h.bsz, h.un, ?_, ?_, ?_, ?_, ?_, ?_, hdj⟩
 ·intro l d hd
  rcases punch_var hd with ⟨rfl, rfl⟩ | ⟨hne, hd⟩
  ·rw [ρk]
   refine ⟨g1, g3, g4, _, q2, cs, t, rfl, ⟨g1, g2, hi, hsk, fun b' base' hb' => ?_⟩⟩
   have hb' : s.ρ.row l = some (b', base') := hb'
   rw [hp] at hb'
   injection hb' with hb'
   injection hb' with e1 e2
   subst e1 e2
   refine ⟨by rw [q3]; exact g6, fun j x hj hx => ?_, ?_⟩
   ·obtain ⟨c, h1, h2⟩ := ho j x hj hx
    exact ⟨c, h1.monoC e.i e.cw, h2⟩
   ·obtain ⟨c, h1, h2, h3⟩ := hc
    exact ⟨c, RelC.ext e h1, h2, h3⟩
  ·rw [ρo l hne]
   obtain ⟨h1, h2, h3, o, h4, h5⟩ := h.var l d hd
   exact ⟨h1, h2, h3, o, (hw.other _ (h.vr l k d r b base hd hk hr hp)).trans h4, RelO.ext e h5⟩
 ·intro l r' hr'
  obtain ⟨hne, hl'⟩ := punch_row hr'
  obtain ⟨h1, h2, h3⟩ := h.row l r' hl'
  refine ⟨h1, h2, h3.imp id ?_⟩
  rintro ⟨b', base', cur', t', e', hh, hw', hf, hs, hx'⟩
  have hne' : b' ≠ b := by
   intro hb
   subst hb
   cases hrw : r'.w with
   | true => exact h.rr l k r' r _ base' base hne hl' hk hrw hr e' hp
   | false => exact g4 (hf hrw)
  exact ⟨b', base', cur', t', e', (hw.other b' hne').trans hh, hw', hf, hs, fun i x hi => by
   obtain ⟨c, hc, hcc⟩ := hx' i x hi
   exact ⟨c, hc.monoC e.i e.cw, hcc⟩⟩
 ·intro a c d d' hac h1 h2
  rcases punch_var h1 with ⟨rfl, rfl⟩ | ⟨na, k1⟩ <;> rcases punch_var h2 with ⟨rfl, rfl⟩ | ⟨nc, k2⟩
  ·exact absurd rfl hac
  ·rw [ρk, ρo c nc]; exact fun e => h.vr c a d' r b base k2 hk hr hp e.symm
  ·rw [ρk, ρo a na]; exact h.vr a c d r b base k1 hk hr hp
  ·rw [ρo a na, ρo c nc]; exact h.vv a c d d' hac k1 k2
 ·intro a c r1 r2 x y z hac h1 h2
  exact h.rr a c r1 r2 x y z hac (punch_row h1).2 (punch_row h2).2
 ·intro a c d r1 x y h1 h2 w1 p1
  obtain ⟨nc, k2⟩ := punch_row h2
  rcases punch_var h1 with ⟨rfl, rfl⟩ | ⟨na, k1⟩
  ·rw [ρk]
   intro e
   subst e
   exact h.rr a c r r1 b base y (Ne.symm nc) hk k2 hr w1 hp p1
  ·rw [ρo a na]; exact h.vr a c d r1 x y k1 k2 w1 p1
 ·intro l d hd h1
  rcases punch_var hd with ⟨rfl, rfl⟩ | ⟨hne, hd⟩
  ·refine ⟨by simp [S4.punch, HF.setVar, HF.delRow], ⟨base, ?_⟩, .inl ⟨_, _, _, _, rfl⟩⟩
   rw [ρk]; exact hp
  ·obtain ⟨h2, h3, h4⟩ := h.hk l d hd h1
   rw [ρo l hne]
   refine ⟨?_, h3, h4⟩
   cases e : (s.punch W' k b (.hrow k r.u r.xs i w)).H.row l with
   | none => rfl
   | some r' => rw [(punch_row e).2] at h2; cases h2
theorem splice_other {cur : Array Value} {vs : List Value} {base i j o z q : Nat} {w : Value} (hij : j ≠ i) (ho : o + vs.length ≤ z) (hq : q < z) (hin : base + i * z + o + vs.length ≤ cur.size) (h : cur[base + j * z + q]? = some w) :
  (splice cur.toList (base + i * z + o) vs).toArray[base + j * z + q]? = some w := by
 rw [List.getElem?_toArray, splice_get (by simp; omega), if_neg]
 ·simpa using h
 ·rintro ⟨q1, q2⟩
  rcases Nat.lt_or_gt_of_ne hij with hlt | hlt
  ·have : (j + 1) * z ≤ i * z := Nat.mul_le_mul_right _ hlt
   rw [Nat.succ_mul] at this
   omega
  ·have : (i + 1) * z ≤ j * z := Nat.mul_le_mul_right _ hlt
   rw [Nat.succ_mul] at this
   omega
theorem splice_here {cur : Array Value} {c vs : List Value} {base o q : Nat} {w : Value} (ho : o + vs.length ≤ c.length) (hin : base + o + vs.length ≤ cur.size) (hcc : ∀ (q : Nat) (w : Value), c[q]? = some w → cur[base + q]? = some w) (h : (splice c o vs)[q]? = some w) :
  (splice cur.toList (base + o) vs).toArray[base + q]? = some w := by
 rw [splice_get (by omega)] at h
 have hq : q < c.length := by
  by_cases h3 : o ≤ q ∧ q < o + vs.length
  ·omega
  ·rw [if_neg h3] at h
   exact (List.getElem?_eq_some_iff.1 h).1
 rw [List.getElem?_toArray, splice_get (by simp; omega)]
 by_cases h3 : o ≤ q ∧ q < o + vs.length
 ·rw [if_pos h3] at h
  rw [if_pos (by omega)]
  rw [show base + q - (base + o) = q - o by omega]
  exact h
 ·rw [if_neg h3] at h
  rw [if_neg (by omega)]
  have := hcc q w h
  simpa using this
theorem nestV_ok {P : Program} {E : TE} (hE : TEok P E) {B : Nat} {s : S4} (h : MemOk B s) {t k i : Nat} {r : Row} {pth : List Step} {v v' : V} {H' : HF} {x y : Value} (hr : s.H.row k = some r) (hrw : r.w = true) (hx : RelV s (.prow k i pth) x) (hy : RelV s v y) (key : Nat) (hto : (nestV E s.H t k r i pth v).to v' H') :
  v' = .undef ∧ UnitOk B s key ((Instr.storeAt t x y).run P s.W) H' := by
 unfold nestV at hto
 split at hto
 ·rename_i k2
  split at hto
  ·rename_i r2 hr2
   split at hto
   ·rename_i hq
    split at hto
    ·rename_i u hd
     split at hto
     ·rename_i hu
      split at hto
      ·rename_i n g hs
       split at hto
       ·rename_i hq2
        split at hto
        ·rename_i w hset
         obtain ⟨rfl, rfl⟩ := hto
         have hu := of_decide_eq_true hu
         simp only [Bool.and_eq_true] at hq hq2
         have hn := nat_beq hq2.1
         obtain ⟨vs, hv, hval⟩ := hy.get (by intro h; cases h) (by intro w h; cases h) rfl
         obtain ⟨b, base, o, cur, t', c, rfl, hp, hi, ho, hb, hsz, hc, hcc⟩ := prow_at h hx hr
         have hdo := dcode_off hd ho
         obtain ⟨hf, hf1⟩ := hE.sz t n g hs
         have hvl := hv.len
         have hcl := hc.len
         have hus : u.size = 1 := by rw [hu]; rfl
         have hv1 : vs.length = 1 := hvl
         have hzi : (i + 1) * r.u.size ≤ r.xs.length * r.u.size := Nat.mul_le_mul_right _ hi
         rw [Nat.succ_mul] at hzi
         have hin : base + i * r.u.size + o + n ≤ cur.size := by omega
         obtain ⟨W', hrun, hw⟩ := run_storeVar (P := P) hf hb hval hv.one (by rw [hv1, hn]) hin
         have hdk : dcode r.u.sk pth = some (V.row k2).sk := by
          rw [sk_dcode, hd, hu]; rfl
         obtain ⟨s1, s2⟩ := dsetV_rel hset hc hv ho hdk
         obtain ⟨g1, g2, g3, g4, cur', t2, g5, g6, g7⟩ := row_own h hr hrw hp
         rw [hb] at g5
         injection g5 with g5
         injection g5 with g5 _ _
         subst g5
         refine ⟨rfl, s.punch W' k b (.hrow k r.u r.xs i w), rfl, memOk_punch h hr hrw hp hw hi s1 ⟨_, s2, ?_, fun q v hv' => ?_⟩ (fun j x hj hx => ?_), ext_punch h hr hrw hp hw, fun _ h => .inl h, ?_⟩
         ·rw [s2.len]; unfold V.size; rw [s1, U.sk_size]
         ·exact splice_here (by omega) (by omega) hcc hv'
         ·obtain ⟨c2, hc2, hcc2⟩ := g7 j x hx
          refine ⟨c2, hc2, fun q w hw' => splice_other hj (by omega) ?_ (by omega) (hcc2 q w hw')⟩
          have := (List.getElem?_eq_some_iff.1 hw').1
          rw [hc2.len] at this
          exact this
         ·simp only [Instr.storeAt, Sem.run_bind, run_sureAddr, Result.andThen_ok]
          exact hrun
        ·cases hto
       ·cases hto
      ·cases hto
     ·cases hto
    ·cases hto
   ·cases hto
  ·cases hto
 ·cases hto
def S4.putD (s : S4) (W' : World) (k key i : Nat) (D : V) (q : Nat) (hd : Value) : S4 :=
 { s with W := W', H := s.H.setVar k D, ρ := { s.ρ with fam := fun q' => if q' = key then (fun j => if j = i then hd else s.ρ.fam q j) else s.ρ.fam q' }, U := fun x => s.U x ∨ x = key }
theorem putD_var {s : S4} {W' : World} {k key i : Nat} {D : V} {q : Nat} {hd : Value} {l : Nat} {d : V} (h : (s.putD W' k key i D q hd).H.var l = some d) : (l = k ∧ d = D) ∨ (l ≠ k ∧ s.H.var l = some d) := by
 unfold S4.putD HF.setVar at h
 by_cases e : l = k
 ·subst e; simp at h; exact .inl ⟨rfl, h.symm⟩
 ·simp [nbeq e] at h; exact .inr ⟨e, h⟩
theorem ext_putD {B : Nat} {s : S4} (h : MemOk B s) {k : Nat} {v r : U} {xs ys : List (List v.T × r.T)} {q : Nat} {ho : Option Nat} (hc : s.H.var k = some (.drow v r xs q ho)) (hl : ys.length = xs.length) {key i : Nat} (hu : ¬ s.U key) {hd : Value} {W' : World} {cs : Array Value}
  (hw : WSet s.W W' (s.ρ.var k) cs) : Ext B s (s.putD W' k key i (.drow v r ys key none) q hd) where
 i := fun _ h => h
 inew := fun _ h => .inl h
 w := fun b hb => .eq (hw.other b (fun e => (h.var k _ hc).2.2.1 (e ▸ hb))) rfl
 below := hw.below (h.var k _ hc).2.1
 u := fun _ h => .inl h
 nx := Nat.le_refl _
 var := fun l d hl hd => by
  obtain ⟨hd, h1⟩ := pv_var hd
  rcases putD_var hd with ⟨rfl, rfl⟩ | ⟨_, hd⟩
  ·cases h1
  ·exact ⟨d, var_pv hd h1, rfl, rfl⟩
 row := fun l g hl' hg => by
  refine ⟨?_, fun b _ _ => hw.bsize b⟩
  by_cases e : l = k
  ·subst e
   have h0 := (h.hk l _ hc rfl).1
   unfold HF.geo at hg ⊢
   have h1 : (s.putD W' l key i (.drow v r ys key none) q hd).H.row l = s.H.row l := rfl
   have h2 : (s.putD W' l key i (.drow v r ys key none) q hd).H.var l = some (.drow v r ys key none) := by simp [S4.putD, HF.setVar]
   rw [h1, h2, h0] at hg
   rw [h0, hc]
   have hg : some (Geo.mk (dcd v r) ys.length) = some g := hg
   show some (Geo.mk (dcd v r) xs.length) = some g
   rw [← hl]; exact hg
  ·have hv : (s.putD W' k key i (.drow v r ys key none) q hd).H.var l = s.H.var l := by simp [S4.putD, HF.setVar, nbeq e]
   rw [← geo_eq (H := s.H) (H2 := (s.putD W' k key i (.drow v r ys key none) q hd).H) rfl hv]; exact hg
 pl := fun _ _ => rfl
 fam := fun q' hq => by
  have : q' ≠ key := fun e => hu (e ▸ hq)
  simp [S4.putD, this]
theorem memOk_putD {B : Nat} {s : S4} (h : MemOk B s) {k : Nat} {v : U} {xs : List (List v.T × U.T .nil)} {q : Nat} {ho : Option Nat} (hc : s.H.var k = some (.drow v .nil xs q ho)) {i key : Nat} (hi : i < xs.length) (hho : ∀ j, ho = some j → j = i)
  (hu : ¬ s.U key) (hn : key < s.H.nx) {ys : List v.T} {hd : Value} (hin : DIn B s v ys hd)
  (hsep : ∀ l j b, InB s l j b → (∃ o len cap, hd = .slice (some ⟨b, o, none⟩) len cap ∧ 0 < cap) → l = k ∧ j = i) {W' : World} {cs cs0 : Array Value} {base : Nat} {t0 : TypeId}
  (hp : s.ρ.row k = some (s.ρ.var k, base)) (hb : s.W.heap[s.ρ.var k]? = some (.cells cs0 t0 (0, 0))) (hw : WSet s.W W' (s.ρ.var k) cs) (hcs1 : cs[base + i]? = some hd) (hcs2 : ∀ n, n ≠ base + i → cs[n]? = cs0[n]?) (z : U.T .nil) :
  MemOk B (s.putD W' k key i (.drow v .nil (xs.set i (ys, z)) key none) q hd) ∧ Ext B s (s.putD W' k key i (.drow v .nil (xs.set i (ys, z)) key none) q hd) := by
 have e : Ext B s (s.putD W' k key i (.drow v .nil (xs.set i (ys, z)) key none) q hd) := ext_putD h hc (by simp) hu hw
 refine ⟨?_, e⟩
 obtain ⟨_, _, _, hz, base', cs', ty, hp', hb', hsz, hel⟩ := drow_at h hc
 rw [hp] at hp'
 injection hp' with hp'
 injection hp' with _ hp'
 subst hp'
 rw [hb] at hb'
 injection hb' with hb'
 injection hb' with hb' hb2 _
 subst hb' hb2
 obtain ⟨cs1, t1, q1, q2, q3⟩ := hw.here
 rw [hb] at q1
 injection q1 with q1
 injection q1 with q1 q1' _
 subst q1 q1'
 obtain ⟨k1, k2, k3, _⟩ := h.var k _ hc
 have hT : ∀ b, Tk (s.putD W' k key i (.drow v .nil (xs.set i (ys, z)) key none) q hd) b → Tk s b := by
  rintro b (ht | ⟨l, d, hl, hb⟩ | ht)
  ·exact .inl ht
  ·rcases putD_var hl with ⟨rfl, rfl⟩ | ⟨hne, hl⟩
   ·exact .inr (.inl ⟨l, _, hc, hb⟩)
   ·exact .inr (.inl ⟨l, d, hl, hb⟩)
  ·exact .inr (.inr ht)
 have hne : ∀ l j b, InB s l j b → b ≠ s.ρ.var k := fun l j b hi e => (h.dj.inlt hi).2.2 (.inr (.inl ⟨k, _, hc, e.symm⟩))
 have fo : ∀ q', s.U q' → (s.putD W' k key i (.drow v .nil (xs.set i (ys, z)) key none) q hd).ρ.fam q' = s.ρ.fam q' := e.fam
 have fk : ∀ j, (s.putD W' k key i (.drow v .nil (xs.set i (ys, z)) key none) q hd).ρ.fam key j = if j = i then hd else s.ρ.fam q j := fun j => by simp [S4.putD]
 have back : ∀ l j b, InB (s.putD W' k key i (.drow v .nil (xs.set i (ys, z)) key none) q hd) l j b → (l = k ∧ j = i ∧ ∃ o len cap, hd = .slice (some ⟨b, o, none⟩) len cap ∧ 0 < cap) ∨ (InB s l j b ∧ ¬ (l = k ∧ j = i)) := by
  rintro l j b ⟨v', r', xs', q', ho', h1, h2, h3, o, len, cap, h4, h5⟩
  rcases putD_var h1 with ⟨rfl, hd'⟩ | ⟨hl, h1⟩
  ·injection hd' with d1 d2 d3 d4 d5
   subst d1 d2
   have d3 := eq_of_heq d3
   subst d3 d4 d5
   rw [fk] at h4
   by_cases hj : j = i
   ·rw [if_pos hj] at h4
    exact .inl ⟨rfl, hj, o, len, cap, h4, h5⟩
   ·rw [if_neg hj] at h4
    refine .inr ⟨⟨v', .nil, xs, q, ho, hc, by simpa using h2, fun hh => hj (hho j hh), o, len, cap, h4, h5⟩, fun hh => hj hh.2⟩
  ·have hq' := (h.dj.el l v' r' xs' q' ho' h1).2.1
   rw [fo q' hq'] at h4
   exact .inr ⟨⟨v', r', xs', q', ho', h1, h2, h3, o, len, cap, h4, h5⟩, fun hh => hl hh.1⟩
 refine ⟨fun b hb => by show b < W'.heap.size; rw [hw.size]; exact h.ilt b hb, by show B ≤ W'.heap.size; rw [hw.size]; exact h.bsz, ?_, ?_, ?_, ?_, h.rr, ?_, fun l d hd h1 => ?_, ⟨?_, ?_⟩⟩
 ·rintro l (hl | rfl)
  ·exact h.un l hl
  ·exact hn
 ·intro l d hd
  rcases putD_var hd with ⟨rfl, rfl⟩ | ⟨hne, hd⟩
  ·exact ⟨.inl k1, k2, k3, _, q2, cs, t0, rfl⟩
  ·obtain ⟨h1, h2, h3, o, h4, h5⟩ := h.var l d hd
   exact ⟨.inl h1, h2, h3, o, (hw.other _ (h.vv l k d _ hne hd hc)).trans h4, RelO.ext e h5⟩
 ·intro l r hr
  obtain ⟨h1, h2, h3⟩ := h.row l r hr
  refine ⟨.inl h1, h2, h3.imp id ?_⟩
  rintro ⟨b, base, cur, t, e', hh, hw', hf, hs, hx⟩
  have hne : b ≠ s.ρ.var k := by
   intro hb
   subst hb
   cases hrw : r.w with
   | true => exact h.vr k l _ r _ base hc hr hrw e' rfl
   | false => exact k3 (hf hrw)
  exact ⟨b, base, cur, t, e', (hw.other b hne).trans hh, hw', hf, hs, fun i x hi => by
   obtain ⟨c, hc, hcc⟩ := hx i x hi
   exact ⟨c, hc.monoC e.i e.cw, hcc⟩⟩
 ·intro a b d d' hab h1 h2
  rcases putD_var h1 with ⟨rfl, rfl⟩ | ⟨_, g1⟩ <;> rcases putD_var h2 with ⟨rfl, rfl⟩ | ⟨_, g2⟩
  ·exact absurd rfl hab
  ·exact h.vv _ _ _ _ hab hc g2
  ·exact h.vv _ _ _ _ hab g1 hc
  ·exact h.vv _ _ _ _ hab g1 g2
 ·intro a b d r x y h1 h2 w p
  rcases putD_var h1 with ⟨rfl, rfl⟩ | ⟨_, h1⟩
  ·exact h.vr _ _ _ _ _ _ hc h2 w p
  ·exact h.vr _ _ _ _ _ _ h1 h2 w p
 ·rcases putD_var hd with ⟨rfl, rfl⟩ | ⟨_, hd⟩
  ·obtain ⟨g1, g2, _⟩ := h.hk l _ hc rfl
   exact ⟨g1, g2, .inr ⟨_, _, _, _, _, rfl⟩⟩
  ·exact h.hk l d hd h1
 ·intro l v' r' xs' q' ho' h1
  rcases putD_var h1 with ⟨rfl, hd'⟩ | ⟨hl, h1⟩
  ·injection hd' with d1 d2 d3 d4 d5
   subst d1 d2
   have d3 := eq_of_heq d3
   subst d3 d4 d5
   refine ⟨.inl k1, .inr rfl, hz, base, cs, t0, hp, q2, by rw [q3]; simpa using hsz, fun j x hj _ => ?_⟩
   rw [fk]
   have es : (dcd v' .nil).size = 1 := rfl
   rw [es, Nat.mul_one]
   by_cases hji : j = i
   ·subst hji
    rw [if_pos rfl]
    rw [List.getElem?_set_self hi] at hj
    injection hj with hj
    subst hj
    refine ⟨hcs1, hin.mono (fun h => h.monoC e.i e.cw) (fun b o len cap hb h0 => ⟨hw.other b (fun hbe => ?_), hT b⟩), [], rfl, fun n w hw => by simp at hw⟩
    obtain ⟨A, cap', g1, g2, g3⟩ := hin
    rw [hb] at g1
    injection g1 with g1 g4 g5
    subst g5
    rcases g3 with g3 | ⟨b', o', cur, t', f1, f2, f3, f4, _⟩
    ·omega
    ·rw [← g1] at f1
     injection f1 with f1
     injection f1 with f1 _ _
     subst f1
     exact f4 (.inr (.inl ⟨l, _, hc, hbe.symm⟩))
   ·rw [if_neg hji]
    rw [List.getElem?_set_ne (Ne.symm hji)] at hj
    have hj' := (List.getElem?_eq_some_iff.1 hj).1
    have hh : ho ≠ some j := fun hh => hji (hho j hh)
    obtain ⟨c1, c2, _⟩ := hel j x hj hh
    rw [es, Nat.mul_one] at c1
    refine ⟨by rw [hcs2 _ (by omega)]; exact c1, c2.mono (fun h => h.monoC e.i e.cw) (fun b o len cap hb h0 => ?_), [], rfl, fun n w hw => by simp at hw⟩
    have hin' : InB s l j b := ⟨v', .nil, xs, q, ho, hc, hj', hh, o, len, cap, hb, h0⟩
    exact ⟨hw.other b (hne l j b hin'), hT b⟩
  ·obtain ⟨u1, u2, u3, base2, cs2, ty2, f1, f2, f3, f4⟩ := h.dj.el l v' r' xs' q' ho' h1
   refine ⟨.inl u1, .inl u2, u3, base2, cs2, ty2, f1, (hw.other _ (h.vv l k _ _ hl h1 hc)).trans f2, f3, fun j x hj hh => ?_⟩
   rw [fo q' u2]
   obtain ⟨c1, c2, c, c3, c4⟩ := f4 j x hj hh
   have hj' := (List.getElem?_eq_some_iff.1 hj).1
   refine ⟨c1, c2.mono (fun h => h.monoC e.i e.cw) (fun b o len cap hb h0 => ?_), c, c3.monoC e.i e.cw, c4⟩
   have hin' : InB s l j b := ⟨v', r', xs', q', ho', h1, hj', hh, o, len, cap, hb, h0⟩
   exact ⟨hw.other b (hne l j b hin'), hT b⟩
 ·intro l j l' j' b h1 h2
  rcases back l j b h1 with ⟨rfl, rfl, g1⟩ | ⟨g1, n1⟩ <;> rcases back l' j' b h2 with ⟨rfl, rfl, g2⟩ | ⟨g2, n2⟩
  ·exact ⟨rfl, rfl⟩
  ·exact absurd (hsep l' j' b g2 g1) n2
  ·exact absurd (hsep l j b g1 g2) n1
  ·exact h.dj.one l j l' j' b g1 g2
theorem set_at {cs : Array Value} {o : Nat} {hd : Value} (h : o < cs.size) : (splice cs.toList o [hd]).toArray[o]? = some hd ∧ ∀ n, n ≠ o → (splice cs.toList o [hd]).toArray[n]? = cs[n]? := by
 constructor
 ·rw [List.getElem?_toArray, splice_get (by simp; omega), if_pos (by simp)]
  simp
 ·intro n hn
  rw [List.getElem?_toArray, splice_get (by simp; omega), if_neg (by simp; omega)]
  simp
theorem storeD_ok {P : Program} {E : TE} (hE : TEok P E) {B : Nat} {s : S4} (h : MemOk B s) {t key : Nat} (hkn : key + 16 ≤ s.H.nx) (hku : ∀ k, key ≤ k → k < key + 16 → ¬ s.U k) {k i : Nat} {p : List Step} {w v' : V} {H' : HF} {x y : Value} (hx : RelV s (.prow k i p) x) (hy : RelV s w y)
  (hto : (storeD E s.H t key k i p w (s.H.var k)).to v' H') : v' = .undef ∧ UnitOk B s key ((Instr.storeAt t x y).run P s.W) H' := by
 unfold storeD at hto
 split at hto
 ·rename_i v r xs q ho hcv
  split at hto
  ·rename_i hpr
   simp only [Bool.and_eq_true, decide_eq_true_eq] at hpr
   obtain ⟨rfl, rfl⟩ := hpr
   split at hto
   ·rename_i n g hs
    split at hto
    ·rename_i hq
     simp only [Bool.and_eq_true, beq_iff_eq] at hq
     obtain ⟨hn, hg⟩ := hq
     have hn := nat_beq hn
     subst hn hg
     obtain ⟨_, hgeo, hU, hz, base, cs, ty, hp, hb, hsz, hel⟩ := drow_at h hcv
     obtain ⟨b, base', o, rfl, hp', hi, hoo⟩ := prow_geo hx hgeo
     rw [hp] at hp'
     injection hp' with hp'
     injection hp' with e1 e2
     subst e1 e2
     have hi : i < xs.length := hi
     have hoo : o = 0 := by rw [off_nil] at hoo; injection hoo with hoo; exact hoo.symm
     subst hoo
     have es : (dcd v .nil).size = 1 := rfl
     obtain ⟨hf, hf1⟩ := hE.sz t 1 false hs
     rw [es] at hsz
     have hin : base + i < cs.size := by omega
     have hku0 := hku key (Nat.le_refl _) (by omega)
     have hkn0 : key < s.H.nx := by omega
     have store : ∀ (yv : Value), yv.oneCell' = true → ∃ W', (Instr.storeAt t (.pointer (some ⟨s.ρ.var k, base + i * (dcd v .nil).size + 0, none⟩)) yv).run P s.W = .ok () W' ∧ WSet s.W W' (s.ρ.var k) (splice cs.toList (base + i) [yv]).toArray := by
      intro yv h1
      obtain ⟨W', hrun, hw⟩ := run_storeVar (P := P) hf hb (show IsVal false [yv] yv from rfl) (by simpa using h1) rfl (o := base + i * (dcd v .nil).size + 0) (by rw [es]; omega)
      refine ⟨W', ?_, ?_⟩
      ·simp only [Instr.storeAt, Sem.run_bind, run_sureAddr, Result.andThen_ok]
       exact hrun
      ·rw [es, Nat.mul_one, Nat.add_zero] at hw
       exact hw
     have sa := fun hd => (set_at (hd := hd) hin).1
     have sb := fun hd => (set_at (hd := hd) hin).2
     split at hto
     ·rename_i k' q' i' m
      split at hto
      ·rename_i hk2
       rcases hto with ⟨hii, rfl, rfl⟩ | ⟨_, hto⟩
       ·have hii := nat_beq hii
        subst hii
        simp only [Bool.and_eq_true] at hk2
        obtain ⟨⟨hk2, hk3⟩, hk4⟩ := hk2
        have hk2 := nat_beq hk2
        have hk3 := nat_beq hk3
        subst hk2 hk3
        obtain rfl : ho = none := by simpa using hk4
        obtain ⟨_, A, len, cap, f1, rfl, f2, f3⟩ := dsl_at hy
        obtain ⟨_, ⟨A', cap', d2, d3, d4⟩, _⟩ := hel i _ (List.getElem?_eq_getElem hi) (by intro h; cases h)
        rw [f1] at d2
        injection d2 with d2 d5 d6
        subst d5 d6 d2
        have ex : (xs.getD i ([], U.zero .nil)) = xs[i] := by simp [List.getD, hi]
        rw [ex]
        have hIn : DIn B s v (xs[i].1.take m) (.slice A m cap) := by
         refine ⟨A, cap, ?_, ?_, d4.imp id ?_⟩
         ·rw [List.length_take, Nat.min_eq_left f2]
         ·rw [List.length_take, Nat.min_eq_left f2]; omega
         ·rintro ⟨b, o, cur, t', g1, g2, g3, g4, g5, g6⟩
          refine ⟨b, o, cur, t', g1, g2, g3, g4, g5, fun j y hj => g6 j y ?_⟩
          rw [List.getElem?_take] at hj
          split at hj
          ·exact hj
          ·cases hj
        obtain ⟨W', hrun, hw⟩ := store (.slice A m cap) rfl
        obtain ⟨M, X⟩ := memOk_putD h hcv hi (fun j hj => by cases hj) hku0 hkn0 hIn (fun l j b hb ⟨o, ln, cp, hh, h0⟩ => by
         injection hh with h1 h2 h3
         subst h1 h3
         exact h.dj.one l j k i b hb ⟨v, .nil, xs, q, none, hcv, hi, (by intro h; cases h), o, _, cap, f1, h0⟩) hp hb hw (sa _) (sb _) xs[i].2
        exact ⟨rfl, _, rfl, M, X, fun z hz => hz.imp id (fun hz => by subst hz; omega), hrun⟩
       ·cases hto
      ·cases hto
     ·rename_i j
      split at hto
      ·rename_i q2 hj
       split at hto
       ·rename_i i'
        split at hto
        ·rename_i hqw
         split at hto
         ·rename_i ys hcast
          rcases hto with ⟨hii, rfl, rfl⟩ | ⟨_, hto⟩
          ·have hii := nat_beq hii
           subst hii
           obtain ⟨ec, ec2⟩ := castT_some hcast
           obtain ⟨u2, ys2, w2⟩ := q2
           have ec : u2 = v := by injection ec
           subst ec
           have ec2 : ys2 = ys := by simpa using ec2
           subst ec2
           have hqw : w2 = true := hqw
           subst hqw
           have m0 := memOk_delRow h j
           have x0 : Ext B s (s.delRow j) := ext_delRow h
           obtain ⟨_, _, hyr⟩ := relV_row hy
           have hRV := hyr _ hj
           have hc0 : (s.delRow j).H.var k = some (.drow u2 .nil xs q (some i)) := hcv
           have hIn : DIn B (s.delRow j) u2 ys2 y := by
            obtain ⟨A, cap, rfl, g1, g2⟩ := hRV
            refine ⟨A, cap, rfl, g1, ?_⟩
            rcases g2 with g2 | ⟨b, bs, g2, g3, g4⟩
            ·exact .inl g2
            ·right
             obtain ⟨o1, o2, o3, o4, cur, t', o5, o6, o7⟩ := row_own h hj rfl g2
             have fr := free_delRow h hj rfl g2
             refine ⟨b, bs + 0 * u2.size, cur, t', g3, o5, o3, ?_, ?_, fun q y hq => ?_⟩
             ·rintro (ht | ⟨l, d, hl, hb⟩ | ⟨l, d, b0, hl, hw, hb⟩)
              ·exact o4 ht
              ·exact fr.var l d hl hb
              ·exact fr.row l d b0 hl hw hb
             ·rw [bsize_at o5] at g4
              have g4 : bs + (0 + cap) * u2.size ≤ cur.size := g4
              rw [Nat.zero_add] at g4
              rw [Nat.zero_mul]
              exact g4
             ·obtain ⟨c, c1, c2⟩ := o7 q y hq
              exact ⟨c, c1, fun n w hn => by rw [Nat.zero_mul, Nat.add_zero]; exact c2 n w hn⟩
           have hy1 : y.oneCell' = true := by
            obtain ⟨A, cap, rfl, _⟩ := hRV
            rfl
           obtain ⟨W', hrun, hw⟩ := store y hy1
           obtain ⟨M, X⟩ := memOk_putD m0 (W' := W') hc0 hi (fun j hj => by injection hj with hj; exact hj.symm) hku0 hkn0 hIn (fun l j' b hb ⟨o, ln, cp, hh, h0⟩ => by
            obtain ⟨A, cap, e1, _, g2⟩ := hRV
            rw [hh] at e1
            injection e1 with e1 _ e3
            subst e3
            rcases g2 with g2 | ⟨b2, bs, g2, g3, _⟩
            ·omega
            ·rw [← e1] at g3
             injection g3 with g3
             injection g3 with g3 _ _
             subst g3
             have hb : InB s l j' b := hb
             exact absurd (Or.inr (Or.inr ⟨j, _, bs, hj, rfl, g2⟩)) (h.dj.inlt hb).2.2) hp hb hw (sa _) (sb _) (xs.getD i ([], U.zero .nil)).2
           exact ⟨rfl, _, rfl, M, x0.trans X, fun z hz => hz.imp id (fun hz => by subst hz; omega), hrun⟩
          ·cases hto
         ·cases hto
        ·cases hto
       ·cases hto
      ·cases hto
     ·cases hto
    ·cases hto
   ·cases hto
  ·cases hto
 ·cases hto
theorem storeV_ok {P : Program} {E : TE} (hE : TEok P E) {B : Nat} {s : S4} (h : MemOk B s) {t key : Nat} (hkn : key + 16 ≤ s.H.nx) (hku : ∀ k, key ≤ k → k < key + 16 → ¬ s.U k) {v p v' : V} {H' : HF} {x y : Value} (hx : RelV s p x) (hy : RelV s v y) (hto : (storeV E s.H t key v p).to v' H') :
  v' = .undef ∧ UnitOk B s key ((Instr.storeAt t x y).run P s.W) H' := by
 unfold storeV at hto
 split at hto
 ·rename_i k pth
  split at hto
  ·rename_i c hc
   split at hto
   ·rename_i old hold
    split at hto
    ·rename_i n g hs
     split at hto
     ·rename_i hq
      split at hto
      ·rename_i c' hset
       obtain ⟨rfl, rfl⟩ := hto
       simp only [Bool.and_eq_true] at hq
       obtain ⟨⟨hn, hsk⟩, hcell⟩ := hq
       have hn := nat_beq hn
       have hsk := of_decide_eq_true hsk
       obtain ⟨o, cs, t', rfl, ho, hb, hr⟩ := pvar_at h hx hc
       obtain ⟨g1, g2⟩ := get_rel hold hr ho
       obtain ⟨vs, hv, hval⟩ := hy.get (cell_not hcell).1 (cell_not hcell).2 (cell_noY hcell)
       obtain ⟨hf, hf1⟩ := hE.sz t n g hs
       rw [← hsk] at g1
       have hdo := dcode_off g1 ho
       have hlen := hr.len
       have hvl := hv.len
       unfold V.size at hlen hvl hn
       obtain ⟨W', hrun, hw⟩ := run_storeVar (P := P) hf hb hval hv.one (by rw [hvl]; exact hn) (o := o) (by simp at hlen; omega)
       obtain ⟨s1, s2⟩ := set_rel hset hr hv ho g1
       refine ⟨rfl, s.putVar W' k c', rfl, memOk_putVar h hc s1 hw (by simpa using s2), ext_putVar h hc s1 (relC_nh s2) hw, fun _ hk => .inl hk, ?_⟩
       simp only [Instr.storeAt, Sem.run_bind, run_sureAddr, Result.andThen_ok]
       exact hrun
      ·cases hto
     ·cases hto
    ·cases hto
   ·cases hto
  ·cases hto
 ·rename_i k i pth
  split at hto
  ·rename_i r hr
   split at hto
   ·rename_i hrw
    split at hto
    ·exact nestV_ok hE h hr hrw hx hy key hto
    split at hto
    ·rename_i u hd
     split at hto
     ·rename_i n g hs
      split at hto
      ·rename_i hq
       split at hto
       ·rename_i yy hdeep
        split at hto
        ·rename_i z hset
         split at hto
         ·cases hto
         ·rename_i hnot
          obtain ⟨rfl, rfl⟩ := hto
          simp only [Bool.and_eq_true] at hq
          have hn1 := nat_beq hq.1
          have hn2 := nat_beq hq.2
          have hk : k ∉ v.rows := by
           intro hk
           simp [hk] at hnot
          have hvn : v ≠ .undef ∧ ∀ w, v ≠ .tup w := by
           constructor
           ·rintro rfl; cases u <;> simp [deepen] at hdeep
           ·rintro w rfl; cases u <;> simp [deepen] at hdeep
          obtain ⟨vs, hv, hval⟩ := hy.get hvn.1 hvn.2 (deepen_noY hdeep)
          have hdr := deepen_rel h hdeep hv
          obtain ⟨t1, e1, e2, e3, e4, e5, e6, e7⟩ := freeze_ok (B := B) v.rows h
          have hI : ∀ b, Iv s v b → t1.I b := by
           rintro b (hb | ⟨j, r', base, hj, hr', hp⟩)
           ·exact e6.i b hb
           ·exact e7 j hj r' b base hr' hp
          have hx1 := hx.ext e6
          have hr1 : t1.H.row k = some r := by rw [e1, freeze_row _ _ hk]; exact hr
          obtain ⟨b, base, o, cur, t', c, rfl, hp, hi, ho, hb, hsz, hc, hcc⟩ := prow_at e5 hx1 hr1
          have hdo := dcode_off hd ho
          obtain ⟨hf, hf1⟩ := hE.sz t n g hs
          have hvl := hv.len
          have hzi : (i + 1) * r.u.size ≤ r.xs.length * r.u.size := Nat.mul_le_mul_right _ hi
          rw [Nat.succ_mul] at hzi
          have hin : base + i * r.u.size + o + n ≤ cur.size := by omega
          obtain ⟨W', hrun, hw⟩ := run_storeVar (P := P) hf hb hval hv.one (by rw [hvl]; exact hn2) hin
          have hlv : vs.length = u.size := by rw [hvl, hn2, ← hn1]
          have hz := dset_rel hset hc (hdr.mono hI (fun b hb => by rw [e2])) hd ho
          have hcl := hc.len
          refine ⟨rfl, t1.putRow W' k ⟨r.u, r.xs.set i z, true⟩, by simp only [S4.putRow]; rw [e1], ?_, ?_, ?_, ?_⟩
          ·refine memOk_putRow e5 hr1 hrw hp (by simp) hw (fun j x hj => ?_)
           have hjl : j < r.xs.length := by
            have := (List.getElem?_eq_some_iff.1 hj).1
            simpa using this
           by_cases hij : j = i
           ·subst hij
            rw [List.getElem?_set_self hjl] at hj
            injection hj with hj
            subst hj
            refine ⟨_, hz, fun q w hw' => ?_⟩
            rw [splice_get (by omega)] at hw'
            have hq : q < c.length := by
             by_cases h3 : o ≤ q ∧ q < o + vs.length
             ·omega
             ·rw [if_neg h3] at hw'
              exact (List.getElem?_eq_some_iff.1 hw').1
            rw [List.getElem?_toArray, splice_get (by simp; omega)]
            by_cases h3 : o ≤ q ∧ q < o + vs.length
            ·rw [if_pos h3] at hw'
             rw [if_pos (by omega)]
             rw [show base + j * r.u.size + q - (base + j * r.u.size + o) = q - o by omega]
             exact hw'
            ·rw [if_neg h3] at hw'
             rw [if_neg (by omega)]
             have := hcc q w hw'
             simpa using this
           ·rw [List.getElem?_set_ne (Ne.symm hij)] at hj
            obtain ⟨_, _, h3⟩ := e5.row k r hr1
            rcases h3 with h3 | ⟨b', base', cur', t2, g1, g2, _, _, g5, g6⟩
            ·rw [h3.2] at hp; cases hp
            rw [hp] at g1
            injection g1 with g1
            injection g1 with g1 g1'
            subst g1 g1'
            rw [hb] at g2
            injection g2 with g2
            injection g2 with g2 _
            subst g2
            obtain ⟨c2, hc2, hcc2⟩ := g6 j x hj
            refine ⟨c2, hc2, fun q w hw' => ?_⟩
            have hq : q < r.u.size := by
             have := (List.getElem?_eq_some_iff.1 hw').1
             rw [hc2.len] at this
             exact this
            have := hcc2 q w hw'
            rw [List.getElem?_toArray, splice_get (by simp; omega), if_neg]
            ·simpa using this
            ·rintro ⟨q1, q2⟩
             rcases Nat.lt_or_gt_of_ne hij with hlt | hlt
             ·have : (j + 1) * r.u.size ≤ i * r.u.size := Nat.mul_le_mul_right _ hlt
              rw [Nat.succ_mul] at this
              omega
             ·have : (i + 1) * r.u.size ≤ j * r.u.size := Nat.mul_le_mul_right _ hlt
              rw [Nat.succ_mul] at this
              omega
          ·exact e6.trans (ext_putRow e5 hr1 hrw hp (by simp) hw)
          ·intro j hj
           have : t1.U j := hj
           rw [e3] at this
           exact .inl this
          ·simp only [Instr.storeAt, Sem.run_bind, run_sureAddr, Result.andThen_ok]
           rw [← e2]
           exact hrun
        ·cases hto
       ·cases hto
      ·cases hto
     ·cases hto
    ·cases hto
   ·cases hto
  ·exact storeD_ok hE h hkn hku hx hy hto
 ·cases hto
end Go.Proofs.YtdokfjkihjkcmaaGreatDoor.Den

/- append; slices cut. -/
namespace Go.Proofs.YtdokfjkihjkcmaaGreatDoor.Den
open Go Go.RowKit
set_option linter.unusedVariables false
theorem sl_cells {W : World} {J : Nat → Prop} {u : U} {xs : List u.T} {A : Option Addr} {n c : Nat} (h : SlD W J (RelD W J u) u.size xs (.slice A n c)) (h0 : 0 < n) :
  ∃ (ad : Addr) (news : List Value), A = some ad ∧ news.length = n * u.size ∧ (∀ j v, news[j]? = some v → W.cell? (ad.add j) = some v) ∧
   ∀ (i : Nat) (x : u.T), xs[i]? = some x → RelD W J u x ((news.drop (i * u.size)).take u.size) := by
 obtain ⟨A', cap, e, hn, hx⟩ := h
 injection e with e1 e2 e3
 subst e1 e2 e3
 obtain ⟨ad, _, hA, _⟩ := hx 0 _ (List.getElem?_eq_getElem h0)
 refine ⟨ad, (List.range (xs.length * u.size)).map (fun j => (W.cell? (ad.add j)).getD undef), hA, by simp, ?_, ?_⟩
 ·intro j v hj
  rw [List.getElem?_map] at hj
  obtain ⟨q, hq, rfl⟩ := Option.map_eq_some_iff.1 hj
  have hq' := List.getElem?_eq_some_iff.1 hq
  obtain ⟨hlt, hq'⟩ := hq'
  simp at hlt hq'
  subst hq'
  have hz : 0 < u.size := by
   rcases Nat.eq_zero_or_pos u.size with h | h
   ·rw [h] at hlt; simp at hlt
   ·exact h
  have hi : j / u.size < xs.length := Nat.div_lt_of_lt_mul (by rw [Nat.mul_comm]; exact hlt)
  obtain ⟨ad', c', hA', _, _, hc, hcc⟩ := hx (j / u.size) _ (List.getElem?_eq_getElem hi)
  rw [hA] at hA'
  injection hA' with hA'
  subst hA'
  have hm : j % u.size < c'.length := by rw [hc]; exact Nat.mod_lt _ hz
  have := hcc (j % u.size) _ (List.getElem?_eq_getElem hm)
  rw [show j / u.size * u.size + j % u.size = j by rw [Nat.mul_comm]; exact Nat.div_add_mod j u.size] at this
  rw [this]
  rfl
 ·intro i x hi
  obtain ⟨ad', c', hA', _, hr, hc, hcc⟩ := hx i x hi
  rw [hA] at hA'
  injection hA' with hA'
  subst hA'
  have hil := (List.getElem?_eq_some_iff.1 hi).1
  have hz2 : (i + 1) * u.size ≤ xs.length * u.size := Nat.mul_le_mul_right _ hil
  rw [Nat.succ_mul] at hz2
  have : (((List.range (xs.length * u.size)).map (fun j => (W.cell? (ad.add j)).getD undef)).drop (i * u.size)).take u.size = c' := by
   apply List.ext_getElem?
   intro q
   rw [List.getElem?_take, List.getElem?_drop]
   by_cases hq : q < u.size
   ·rw [if_pos hq, List.getElem?_map, List.getElem?_range (by omega)]
    have hv := List.getElem?_eq_getElem (show q < c'.length by omega)
    rw [hv]
    simp [hcc q _ hv]
   ·rw [if_neg hq, List.getElem?_eq_none (by omega)]
  rw [this]
  exact hr
theorem rowAt_two {s : S4} {u : U} {b base : Nat} {cur : Array Value} {t : TypeId} (hb : s.W.heap[b]? = some (.cells cur t (0, 0))) {xs ys : List u.T} (hs : base + (xs.length + ys.length) * u.size ≤ cur.size)
  (h1 : ∀ (i : Nat) (x : u.T), xs[i]? = some x → ∃ c, RelD s.W s.I u x c ∧ ∀ (j : Nat) (v : Value), c[j]? = some v → cur[base + i * u.size + j]? = some v)
  (h2 : ∀ (i : Nat) (x : u.T), ys[i]? = some x → ∃ c, RelD s.W s.I u x c ∧ ∀ (j : Nat) (v : Value), c[j]? = some v → cur[base + (xs.length + i) * u.size + j]? = some v) :
  RowAt s ⟨u, xs ++ ys, true⟩ b base := by
 refine ⟨cur, t, hb, by simpa using hs, fun i x hi => ?_⟩
 rcases Nat.lt_or_ge i xs.length with hlt | hge
 ·have hi' : xs[i]? = some x := by
   have : (xs ++ ys)[i]? = some x := hi
   rwa [List.getElem?_append_left hlt] at this
  exact h1 i x hi'
 ·have hi' : ys[i - xs.length]? = some x := by
   have : (xs ++ ys)[i]? = some x := hi
   rwa [List.getElem?_append_right hge] at this
  obtain ⟨c, hc, hcc⟩ := h2 _ x hi'
  refine ⟨c, hc, fun j v hj => ?_⟩
  have := hcc j v hj
  rw [show xs.length + (i - xs.length) = i by omega] at this
  exact this
theorem relD_chunk_cells {W : World} {J : Nat → Prop} {u : U} {x : u.T} {news : List Value} {i : Nat} (h : RelD W J u x ((news.drop (i * u.size)).take u.size)) {j : Nat} {v : Value} (hj : ((news.drop (i * u.size)).take u.size)[j]? = some v) : news[i * u.size + j]? = some v := by
 rw [List.getElem?_take] at hj
 split at hj
 ·rw [List.getElem?_drop] at hj; exact hj
 ·cases hj
theorem news_one {W : World} {J : Nat → Prop} {u : U} {xs : List u.T} {news : List Value} (hl : news.length = xs.length * u.size) (h : ∀ (i : Nat) (x : u.T), xs[i]? = some x → RelD W J u x ((news.drop (i * u.size)).take u.size)) : ∀ v ∈ news, v.oneCell' = true :=
 RelD.one (u := .arr xs.length u) (x := xs) (cs := news) ⟨rfl, hl, h⟩
theorem alloc_heap (W : World) (o : Obj) : (W.alloc o).heap[W.heap.size]? = some o := heap_alloc_new W o
theorem grown_ok {B : Nat} {s : S4} (h : MemOk B s) {key : Nat} (hu : ¬ s.U key) (hk : key < s.H.nx) {u : U} (hz : 0 < u.size) {xs ys : List u.T} {olds news : List Value} (hlo : olds.length = xs.length * u.size) (hln : news.length = ys.length * u.size)
  (h1 : ∀ (i : Nat) (x : u.T), xs[i]? = some x → RelD s.W s.I u x ((olds.drop (i * u.size)).take u.size)) (h2 : ∀ (i : Nat) (x : u.T), ys[i]? = some x → RelD s.W s.I u x ((news.drop (i * u.size)).take u.size))
  (e : TypeId) (z : Array Value) (cap : Nat) (hcap : xs.length + ys.length ≤ cap) (hzs : z.size = u.size) :
  ∃ t : S4, t.H = s.H.setRow key ⟨u, xs ++ ys, true⟩ ∧ MemOk B t ∧ Ext B s t ∧ (∀ k, t.U k → s.U k ∨ k = key) ∧
   t.W = s.W.drew.alloc (.cells (olds.toArray ++ news.toArray ++ Builtin.zeroCells z (cap - (xs.length + ys.length))) e) ∧ RelV t (.row key) (.slice (some ⟨s.W.heap.size, 0, none⟩) (xs.length + ys.length) cap) := by
 have k1 : WKeep B s s.W.drew := wkeep_heap s rfl rfl rfl rfl
 have m1 := k1.memOk h
 have x1 := k1.ext h
 have k2 := wkeep_alloc m1 (.cells (olds.toArray ++ news.toArray ++ Builtin.zeroCells z (cap - (xs.length + ys.length))) e)
 have m2 := k2.memOk m1
 have x2 := k2.ext m1
 have hsz : (s.setW s.W.drew).W.heap.size = s.W.heap.size := rfl
 have hb : ((s.setW s.W.drew).setW (s.W.drew.alloc (.cells (olds.toArray ++ news.toArray ++ Builtin.zeroCells z (cap - (xs.length + ys.length))) e))).W.heap[s.W.heap.size]? = some (.cells (olds.toArray ++ news.toArray ++ Builtin.zeroCells z (cap - (xs.length + ys.length))) e (0, 0)) := alloc_heap s.W.drew _
 have hcs : (olds.toArray ++ news.toArray ++ Builtin.zeroCells z (cap - (xs.length + ys.length))).size = cap * u.size := by
  simp [size_zeroCells, hlo, hln, hzs]
  rw [← Nat.add_mul, ← Nat.add_mul]
  congr 1
  omega
 have hfree : Free B ((s.setW s.W.drew).setW (s.W.drew.alloc (.cells (olds.toArray ++ news.toArray ++ Builtin.zeroCells z (cap - (xs.length + ys.length))) e))) s.W.heap.size := by
  refine ⟨h.bsz, fun hI => Nat.lt_irrefl _ (h.ilt _ hI), fun k c hc => ?_, fun k r b0 hr hw hp => ?_, fun k i hi => Nat.lt_irrefl _ (h.dj.inlt (k := k) (i := i) hi).1⟩
  ·exact Nat.ne_of_lt (h.varlt (k := k) (c := c) hc)
  ·exact Nat.lt_irrefl _ (h.rowlt (k := k) (r := r) hr hp)
 have hrow : RowAt ((s.setW s.W.drew).setW (s.W.drew.alloc (.cells (olds.toArray ++ news.toArray ++ Builtin.zeroCells z (cap - (xs.length + ys.length))) e))) ⟨u, xs ++ ys, true⟩ s.W.heap.size 0 := by
  refine rowAt_two hb (by rw [hcs, Nat.zero_add]; exact Nat.mul_le_mul_right _ hcap) (fun i x hi => ?_) (fun i x hi => ?_)
  ·have hr := h1 i x hi
   have hil := (List.getElem?_eq_some_iff.1 hi).1
   refine ⟨_, (hr.monoC x1.i x1.cw).monoC x2.i x2.cw, fun j v hj => ?_⟩
   have := relD_chunk_cells hr hj
   rw [Nat.zero_add]
   have hlt := (List.getElem?_eq_some_iff.1 this).1
   rw [Array.append_assoc, Array.getElem?_append_left (by simpa using hlt)]
   simpa using this
  ·have hr := h2 i x hi
   refine ⟨_, (hr.monoC x1.i x1.cw).monoC x2.i x2.cw, fun j v hj => ?_⟩
   have := relD_chunk_cells hr hj
   have hlt := (List.getElem?_eq_some_iff.1 this).1
   rw [Nat.zero_add, Array.getElem?_append_left (by simp [hlo]; rw [Nat.add_mul]; omega), Array.getElem?_append_right (by simp [hlo]; rw [Nat.add_mul]; omega)]
   have e : (xs.length + i) * u.size + j - olds.toArray.size = i * u.size + j := by
    simp [hlo]; rw [Nat.add_mul]; omega
   rw [e]
   simpa using this
 have m3 := memOk_addRow m2 (key := key) (pl := some (s.W.heap.size, 0)) (r := ⟨u, xs ++ ys, true⟩) hu hk hz rfl (.inr ⟨_, _, rfl, hfree, hrow⟩)
 have x3 := ext_addRow (B := B) (s := (s.setW s.W.drew).setW (s.W.drew.alloc (.cells (olds.toArray ++ news.toArray ++ Builtin.zeroCells z (cap - (xs.length + ys.length))) e))) (key := key) (pl := some (s.W.heap.size, 0)) (r := ⟨u, xs ++ ys, true⟩) hu
 refine ⟨_, rfl, m3, (x1.trans x2).trans x3, fun k hk => hk, rfl, .inr ⟨[_], relT_of ?_, rfl⟩⟩
 simp only [RelC]
 refine ⟨.inr rfl, _, rfl, rfl, fun r hr => ?_⟩
 rcases addRow_geo hr with ⟨_, rfl⟩ | ⟨hne, _⟩
 ·refine ⟨some ⟨s.W.heap.size, 0, none⟩, cap, by simp, by simpa using hcap, .inr ⟨s.W.heap.size, 0, by simp [S4.addRow], by simp, ?_⟩⟩
  show 0 + (0 + cap) * u.size ≤ bsize _ _
  have hbs := bsize_at hb
  rw [hcs] at hbs
  refine Nat.le_of_eq (Eq.trans ?_ hbs.symm)
  rw [Nat.zero_add, Nat.zero_add]
 ·exact absurd rfl hne
theorem empty_ok {B : Nat} {s : S4} (h : MemOk B s) {key : Nat} (hu : ¬ s.U key) (hk : key < s.H.nx) {u : U} (hz : 0 < u.size) (A : Option Addr) :
  ∃ t : S4, t.H = s.H.setRow key ⟨u, [], true⟩ ∧ MemOk B t ∧ Ext B s t ∧ (∀ k, t.U k → s.U k ∨ k = key) ∧ t.W = s.W ∧ RelV t (.row key) (.slice A 0 0) := by
 refine ⟨_, rfl, memOk_addRow h (key := key) (pl := none) (r := ⟨u, [], true⟩) hu hk hz rfl (.inl ⟨rfl, rfl⟩), ext_addRow hu, fun k hk => hk, rfl, .inr ⟨[_], relT_of ?_, rfl⟩⟩
 simp only [RelC]
 refine ⟨.inr rfl, _, rfl, rfl, fun r hr => ?_⟩
 rcases addRow_geo hr with ⟨_, rfl⟩ | ⟨hne, _⟩
 ·exact ⟨A, 0, rfl, Nat.le_refl _, .inl rfl⟩
 ·exact absurd rfl hne
theorem run_append_none {P : Program} {W : World} {t ty e : TypeId} {i : TypeInfo} (ht : P.underlying t = some (.slice e)) (hi : P.info? e = some i) (A Ay : Option Addr) (n c cy : Nat) (hn : n ≤ c) :
  (Builtin.append_ #[t, t] ty #[.slice A n c, .slice Ay 0 cy]).run P W = .ok (.slice A n c) W := by
 cases Ay <;> cases A <;> simp [Builtin.append_, run_underlying ht, sizeOf, typeInfo, hi, Builtin.lenOf, Builtin.firstCells, hn, loadCells, loadCellsFrom, storeCells]
theorem run_append_here {P : Program} {W : World} {t ty e : TypeId} {i : TypeInfo} (ht : P.underlying t = some (.slice e)) (hi : P.info? e = some i) {b o n c : Nat} {cur : Array Value} {te : TypeId} (hb : W.heap[b]? = some (.cells cur te (0, 0)))
  (ad : Addr) (m cy : Nat) (news : List Value) (hl : news.length = m * i.size) (hnews : ∀ j v, news[j]? = some v → W.cell? (ad.add j) = some v) (h1 : ∀ v ∈ news, v.oneCell' = true) (hroom : n + m ≤ c) (hfit : o + n * i.size + news.length ≤ cur.size) :
  ∃ W', (Builtin.append_ #[t, t] ty #[.slice (some ⟨b, o, none⟩) n c, .slice (some ad) m cy]).run P W = .ok (.slice (some ⟨b, o, none⟩) (n + m) c) W' ∧ WSet W W' b (splice cur.toList (o + n * i.size) news).toArray := by
 obtain ⟨W', hr, hw⟩ := run_storeCells_at P (b := b) (o := o + n * i.size) news 0 W cur hb (by simpa using hfit) h1
 refine ⟨W', ?_, by simpa using hw⟩
 have hf : (Builtin.firstCells i.size m (.slice (some ad) m cy)).run P W = .ok news.toArray W := by
  simp only [Builtin.firstCells]
  rw [← hl]
  exact run_loadCells P W ad news hnews
 simp [Builtin.append_, run_underlying ht, sizeOf, typeInfo, hi, Builtin.lenOf, hroom, hf, addr_add, hr]
theorem sl_of_deepen {B : Nat} {s : S4} (h : MemOk B s) {u : U} {v : V} {ys : List u.T} {x : Value} (hx : RelV s v x) (hd : deepen s.H (.sl u) v = some ys) : SlD s.W (Iv s v) (RelD s.W (Iv s v) u) u.size ys x := by
 have hn : v ≠ .undef ∧ ∀ w, v ≠ .tup w := by
  constructor
  ·rintro rfl; simp [deepen] at hd
  ·rintro w rfl; simp [deepen] at hd
 obtain ⟨cs, hr, hv⟩ := hx.get hn.1 hn.2 (deepen_noY hd)
 obtain ⟨y, rfl, hy⟩ := deepen_rel h hd hr
 have hg : v.agg = false := by
  cases v <;> try rfl
  ·rename_i u' x'
   have hd : castT (.sl u) x' = some ys := by simpa [deepen] using hd
   obtain ⟨e, _⟩ := castT_some hd
   subst e
   rfl
  ·simp [deepen] at hd
  ·simp [deepen] at hd
 rw [isVal_one hv hg]
 exact hy
theorem sl_elems {B : Nat} {s : S4} (h : MemOk B s) {u : U} {v : V} {ys : List u.T} {x : Value} (hx : RelV s v x) (hd : deepen s.H (.sl u) v = some ys) {A : Option Addr} {n c : Nat} (hs : x = .slice A n c) (h0 : 0 < n) :
  ∃ (ad : Addr) (news : List Value), A = some ad ∧ news.length = n * u.size ∧ (∀ j w, news[j]? = some w → s.W.cell? (ad.add j) = some w) ∧
   (∀ (i : Nat) (y : u.T), ys[i]? = some y → RelD s.W s.I u y ((news.drop (i * u.size)).take u.size)) := by
 subst hs
 have key : ∀ {J : Nat → Prop} {k : Nat} {r : Row} (hr : s.H.row k = some r) (o m : Nat) (hm : o + m ≤ r.xs.length) (hv : RowV s.W (s.ρ.row k) r.u.size o m (.slice A n c)) (hu : r.u = u), ∀ zs : List u.T, hu ▸ ((r.xs.drop o).take m) = zs →
   ∃ (ad : Addr) (news : List Value), A = some ad ∧ news.length = n * u.size ∧ (∀ j w, news[j]? = some w → s.W.cell? (ad.add j) = some w) ∧ (∀ (i : Nat) (y : u.T), zs[i]? = some y → RelD s.W s.I u y ((news.drop (i * u.size)).take u.size)) := by
  intro J k r hr o m hm hv hu zs hz
  subst hu
  have hz : (r.xs.drop o).take m = zs := hz
  subst hz
  obtain ⟨A', cap, e, hn, hc⟩ := hv
  injection e with e1 e2 e3
  subst e1 e2 e3
  rcases hc with hc | ⟨b, base, hp, hA, hsz⟩
  ·omega
  ·obtain ⟨_, hzp, h3⟩ := h.row k r hr
   rcases h3 with h3 | ⟨b', base', cur, t, e, hh, _, _, hs2, hx2⟩
   ·rw [h3.2] at hp; cases hp
   ·have he := e
    rw [hp] at he
    injection he with he
    injection he with e1 e2
    subst e1 e2
    have hb1 : (o + n) * r.u.size ≤ r.xs.length * r.u.size := Nat.mul_le_mul_right _ hm
    rw [Nat.add_mul] at hb1
    refine ⟨_, (cur.toList.drop (base + o * r.u.size)).take (n * r.u.size), hA, by simp; omega, fun j w hj => ?_, fun i y hi => ?_⟩
    ·rw [List.getElem?_take] at hj
     split at hj
     ·rw [List.getElem?_drop] at hj
      rw [addr_add, cell_at hh]
      simpa using hj
     ·cases hj
    ·have hin : i < n := by
      have := (List.getElem?_eq_some_iff.1 hi).1
      simp at this
      omega
     rw [List.getElem?_take, if_pos hin, List.getElem?_drop] at hi
     obtain ⟨c', hc', hcc⟩ := hx2 _ y hi
     have hi1 : (i + 1) * r.u.size ≤ n * r.u.size := Nat.mul_le_mul_right _ hin
     rw [Nat.succ_mul] at hi1
     have : ((((cur.toList.drop (base + o * r.u.size)).take (n * r.u.size)).drop (i * r.u.size)).take r.u.size) = c' := by
      apply List.ext_getElem?
      intro q
      rw [List.getElem?_take]
      by_cases hq : q < r.u.size
      ·rw [if_pos hq, List.getElem?_drop, List.getElem?_take, if_pos (by omega), List.getElem?_drop]
       have hv := List.getElem?_eq_getElem (show q < c'.length by rw [hc'.len]; exact hq)
       rw [hv]
       have := hcc q _ hv
       rw [Nat.add_mul] at this
       rw [show base + o * r.u.size + (i * r.u.size + q) = base + (o * r.u.size + i * r.u.size) + q by omega]
       simpa using this
      ·rw [if_neg hq, List.getElem?_eq_none (by rw [hc'.len]; omega)]
     rw [this]
     exact hc'
 cases v with
 | d u' x' =>
  have hd' : castT (.sl u) x' = some ys := by simpa [deepen] using hd
  obtain ⟨e, he⟩ := castT_some hd'
  subst e
  have he : x' = ys := by simpa using he
  subst he
  obtain ⟨ad, news, a1, a2, a3, a4⟩ := sl_cells (relV_sl hx) h0
  exact ⟨ad, news, a1, a2, a3, a4⟩
 | dfull u' x' =>
  simp only [deepen] at hd
  obtain ⟨e, he⟩ := castT_some hd
  injection e with e
  subst e
  have he : x' = ys := by simpa using he
  subst he
  obtain ⟨ad, news, a1, a2, a3, a4⟩ := sl_cells (relV_dfull hx).1 h0
  exact ⟨ad, news, a1, a2, a3, a4⟩
 | nilsl =>
  obtain ⟨cs, h1, h2⟩ := hx.get (by intro h; cases h) (by intro w h; cases h)
  simp only [RelC] at h1
  subst h1
  have := isVal_one h2 rfl
  injection this with _ e
  omega
 | row k =>
  simp only [deepen] at hd
  cases hk : s.H.row k with
  | none => rw [hk] at hd; cases hd
  | some r =>
   rw [hk] at hd
   simp only at hd
   obtain ⟨e, he⟩ := castT_some hd
   injection e with e
   obtain ⟨_, _, hv⟩ := relV_row hx
   refine key (J := s.I) hk 0 r.xs.length (by omega) (hv r hk) e ys ?_
   subst e
   simpa using he
 | rsub k o m =>
  simp only [deepen] at hd
  cases hk : s.H.row k with
  | none => rw [hk] at hd; cases hd
  | some r =>
   rw [hk] at hd
   simp only at hd
   obtain ⟨e, he⟩ := castT_some hd
   injection e with e
   obtain ⟨_, _, hv⟩ := relV_rsub hx
   refine key (J := s.I) hk o m (hv r hk).1 (hv r hk).2 e ys ?_
   subst e
   simpa using he
 | _ => simp [deepen] at hd
end Go.Proofs.YtdokfjkihjkcmaaGreatDoor.Den

/- append, whole; slices cut. -/
namespace Go.Proofs.YtdokfjkihjkcmaaGreatDoor.Den
open Go Go.RowKit
set_option linter.unusedVariables false
theorem ext_freeSet {B : Nat} {s : S4} (h : MemOk B s) {b : Nat} (hf : Free B s b) {W' : World} {cs : Array Value} (hw : WSet s.W W' b cs) : Ext B s (s.setW W') where
 i := fun _ h => h
 inew := fun _ h => .inl h
 w := fun x hx => .eq (hw.other x (fun e => hf.i (e ▸ hx))) rfl
 below := hw.below hf.B
 u := fun _ h => h
 nx := Nat.le_refl _
 var := fun x c _ hc => ⟨c, hc, rfl, rfl⟩
 row := fun x r _ hr => ⟨hr, fun b' _ _ => hw.bsize b'⟩
 pl := fun _ _ => rfl
theorem memOk_freeSet {B : Nat} {s : S4} (h : MemOk B s) {b : Nat} (hf : Free B s b) {W' : World} {cs : Array Value} (hw : WSet s.W W' b cs) : MemOk B (s.setW W') := by
 have e := ext_freeSet h hf hw
 refine ⟨fun x hx => by show x < W'.heap.size; rw [hw.size]; exact h.ilt x hx, by show B ≤ W'.heap.size; rw [hw.size]; exact h.bsz, h.un, ?_, ?_, h.vv, h.rr, h.vr, h.hk, h.dj.mono e (fun k _ _ _ _ _ hk => ⟨hk, rfl, hw.other _ (hf.var k _ hk)⟩) (fun _ _ _ _ ht => ht) (fun k i b' hi => hw.other _ (fun hb => hf.dj k i (hb ▸ hi)))⟩
 ·intro k c hc
  obtain ⟨h1, h2, h3, o, h4, h5⟩ := h.var k c hc
  exact ⟨h1, h2, h3, o, (hw.other _ (hf.var k c hc)).trans h4, RelO.ext e h5⟩
 ·intro k r hr
  obtain ⟨h1, h2, h3⟩ := h.row k r hr
  refine ⟨h1, h2, h3.imp id ?_⟩
  rintro ⟨b', base, cur, t, e', hh, hw', hf', hs, hx⟩
  have hne : b' ≠ b := by
   rintro rfl
   cases hrw : r.w with
   | true => exact hf.row k r base hr hrw e'
   | false => exact hf.i (hf' hrw)
  exact ⟨b', base, cur, t, e', (hw.other _ hne).trans hh, hw', hf', hs, fun i x hi => by
   obtain ⟨c, hc, hcc⟩ := hx i x hi
   exact ⟨c, hc.monoC e.i e.cw, hcc⟩⟩
theorem free_setW {B : Nat} {s : S4} {b : Nat} (hf : Free B s b) (W' : World) : Free B (s.setW W') b := ⟨hf.B, hf.i, hf.var, hf.row, hf.dj⟩
theorem grownCap_facts (W : World) (need old : Nat) (e : TypeId) : need ≤ grownCap W need old e := grownCap_ge W need old e
theorem run_append_any {P : Program} {W : World} {t ty e : TypeId} {i : TypeInfo} {z : Value} (ht : P.underlying t = some (.slice e)) (hi : P.info? e = some i) (hz : i.zero = some z) {A : Option Addr} {n c : Nat} (hA : A = none → n = 0 ∧ c = 0)
  {olds : List Value} (hlo : olds.length = n * i.size) (holds : ∀ ad, A = some ad → ∀ j v, olds[j]? = some v → W.cell? (ad.add j) = some v)
  {ad : Addr} {m cy : Nat} {news : List Value} (hl : news.length = m * i.size) (hnews : ∀ j v, news[j]? = some v → W.cell? (ad.add j) = some v) (hm : 0 < m) (hg : c < n + m) (hb0 : 0 < i.bytes) (hb : (n + m) * i.bytes ≤ 140737488355328) :
  ∃ cap, n + m ≤ cap ∧ (Builtin.append_ #[t, t] ty #[.slice A n c, .slice (some ad) m cy]).run P W = .ok (.slice (some ⟨W.heap.size, 0, none⟩) (n + m) cap) (W.drew.alloc (.cells (olds.toArray ++ news.toArray ++ Builtin.zeroCells z.cells (cap - (n + m))) e)) := by
 have hsm : n + m ≤ 140737488355328 := Nat.le_trans (Nat.le_mul_of_pos_right _ hb0) hb
 cases A with
 | none =>
  obtain ⟨rfl, rfl⟩ := hA rfl
  have ho : olds = [] := List.eq_nil_of_length_eq_zero (by simpa using hlo)
  subst ho
  have := run_append_nil (P := P) W t ty e i z ht hi hz ad m cy news hl hnews hm (by omega) (by simp at hb; omega)
  refine ⟨grownCap W m 0 e, by rw [Nat.zero_add]; exact grownCap_ge W m 0 e, ?_⟩
  simpa using this
 | some a =>
  have := run_append_grow (P := P) W t ty e i z ht hi hz a n c olds hlo (holds a rfl) ad m cy news hl hnews hg (by omega) (growslice_fits hg hb)
  exact ⟨grownCap W (n + m) c e, grownCap_ge W (n + m) c e, this⟩
theorem mem_contains {k : Nat} {l : List Nat} (h : (!(l.contains k)) = true) : k ∉ l := by
 intro hk
 simp [hk] at h
theorem slD_form {α : Type} {W : World} {J : Nat → Prop} {R : α → List Value → Prop} {z : Nat} {xs : List α} {v : Value} (h : SlD W J R z xs v) : ∃ A c, v = .slice A xs.length c ∧ xs.length ≤ c := by
 obtain ⟨A, c, rfl, hn, _⟩ := h
 exact ⟨A, c, rfl, hn⟩
theorem append_row {P : Program} {B : Nat} {s : S4} (h : MemOk B s) {t ty e : TypeId} {u : U} {bytes : Nat} (ht : P.underlying t = some (.slice e)) (he : ElemFact P e u bytes) (hb0 : 0 < bytes) {key : Nat} (hu : ¬ s.U key) (hk : key < s.H.nx)
  {k : Nat} {r : Row} (hr : s.H.row k = some r) (hw : r.w = true) (hru : r.u = u) {o n : Nat} (hon : o + n ≤ r.xs.length) {vx : Value} (hv : RowV s.W (s.ρ.row k) r.u.size o n vx)
  {y : V} {vy : Value} {ys : List u.T} (hy : RelV s y vy) (hd : deepen s.H (.sl u) y = some ys) (hby : (n + ys.length) * bytes ≤ maxBytes) :
  ValOk B s key ((Builtin.append_ #[t, t] ty #[vx, vy]).run P s.W) (.row key) ((s.H.delRow k).setRow key ⟨u, (hru ▸ ((r.xs.drop o).take n)) ++ ys, true⟩) := by
 subst hru
 obtain ⟨i, z, hi, hsz, hbt, hz, hzc⟩ := he.info
 obtain ⟨Ay, cy, rfl, hcy⟩ := slD_form (sl_of_deepen h hy hd)
 have hzp := (h.row k r hr).2.1
 have m1 := memOk_delRow h k
 have x1 : Ext B s (s.delRow k) := ext_delRow h
 have hzl : ((r.xs.drop o).take n).length = n := by simp; omega
 have hzs : z.cells.size = r.u.size := by rw [← Array.length_toList, hzc, zcells_len]
 obtain ⟨A, c, rfl, hn, hc⟩ := hv
 -- the elements that are there
 have olds : ∃ ol : List Value, ol.length = n * r.u.size ∧ (∀ ad, A = some ad → ∀ j v, ol[j]? = some v → s.W.cell? (ad.add j) = some v) ∧ (∀ (q : Nat) (x : r.u.T), ((r.xs.drop o).take n)[q]? = some x → RelD s.W s.I r.u x ((ol.drop (q * r.u.size)).take r.u.size)) := by
  rcases Nat.eq_zero_or_pos n with h0 | h0
  ·subst h0
   exact ⟨[], by simp, fun _ _ j v hj => by simp at hj, fun q x hq => by simp at hq⟩
  ·have hrel : RelV s (.rsub k o n) (.slice A n c) := by
    refine .inr ⟨[_], relT_of ?_, rfl⟩
    simp only [RelC]
    refine ⟨(h.row k r hr).1, _, rfl, rfl, fun r' hr' => ?_⟩
    rw [geo_row hr] at hr'
    injection hr' with hr'
    subst hr'
    exact ⟨hon, A, c, rfl, hn, hc⟩
   have hdd : deepen s.H (.sl r.u) (.rsub k o n) = some ((r.xs.drop o).take n) := by
    simp only [deepen, hr]
    simp [castT]
   obtain ⟨ad, ol, hA, hl, hcell, hel⟩ := sl_elems h hrel hdd rfl h0
   exact ⟨ol, hl, fun ad' hA' => by rw [hA] at hA'; injection hA' with hA'; subst hA'; exact hcell, hel⟩
 obtain ⟨ol, hol, holc, hole⟩ := olds
 rcases Nat.eq_zero_or_pos ys.length with hm | hm
 ·-- nothing to append
  have hys : ys = [] := List.eq_nil_of_length_eq_zero hm
  subst hys
  have hrun := run_append_none (P := P) (W := s.W) (ty := ty) ht hi A Ay n c cy hn
  rcases hc with hc | ⟨b, base, hp, rfl, hbs⟩
  ·subst hc
   have hn0 : n = 0 := by omega
   subst hn0
   obtain ⟨t', a1, a2, a3, a4, a5, a6⟩ := empty_ok m1 (key := key) hu hk hzp A
   refine ⟨t', ?_, a2, x1.trans a3, fun q hq => (a4 q hq).imp id (fun e => by omega), _, ?_, a6⟩
   ·rw [a1]; simp [S4.delRow]
   ·rw [a5]; exact hrun
  ·have hf := free_delRow h hr hw hp
   obtain ⟨_, _, h3⟩ := h.row k r hr
   rcases h3 with h3 | ⟨b', base', cur, t', e', hh, _, _, hs, hx⟩
   ·rw [h3.2] at hp; cases hp
   have hp0 := hp
   rw [hp] at e'
   injection e' with e'
   injection e' with e1 e2
   subst e1 e2
   have hon2 : (o + n) * r.u.size ≤ r.xs.length * r.u.size := Nat.mul_le_mul_right _ hon
   rw [Nat.add_mul] at hon2
   have hra : RowAt (s.delRow k) ⟨r.u, (r.xs.drop o).take n ++ [], true⟩ b (base + o * r.u.size) := by
    refine ⟨cur, t', hh, by simp; rw [Nat.min_eq_left (by omega)]; omega, fun q x hq => ?_⟩
    have hq : ((r.xs.drop o).take n)[q]? = some x := by simpa using hq
    have hqn : q < n := by
     have := (List.getElem?_eq_some_iff.1 hq).1
     omega
    rw [List.getElem?_take, if_pos hqn, List.getElem?_drop] at hq
    obtain ⟨c', hc', hcc⟩ := hx _ x hq
    refine ⟨c', hc', fun j v hj => ?_⟩
    have := hcc j v hj
    rw [Nat.add_mul] at this
    show cur[base + o * r.u.size + q * r.u.size + j]? = some v
    rw [show base + o * r.u.size + q * r.u.size + j = base + (o * r.u.size + q * r.u.size) + j by omega]
    exact this
   have m2 := memOk_addRow m1 (key := key) (pl := some (b, base + o * r.u.size)) (r := ⟨r.u, (r.xs.drop o).take n ++ [], true⟩) hu hk hzp rfl (.inr ⟨_, _, rfl, hf, hra⟩)
   refine ⟨_, rfl, m2, x1.trans (ext_addRow hu), fun q hq => hq.imp id (fun e => by omega), _, hrun, .inr ⟨[_], relT_of ?_, rfl⟩⟩
   simp only [RelC]
   refine ⟨.inr rfl, _, rfl, rfl, fun r' hr' => ?_⟩
   rcases addRow_geo hr' with ⟨_, rfl⟩ | ⟨hne, _⟩
   ·have hl : ((r.xs.drop o).take n ++ ([] : List r.u.T)).length = n := by rw [List.append_nil, hzl]
    refine ⟨some ⟨b, base + o * r.u.size, none⟩, c, by show _ = Value.slice _ _ c; rw [hl], by show _ ≤ c; rw [hl]; exact hn, .inr ⟨b, base + o * r.u.size, by simp [S4.addRow], by simp, ?_⟩⟩
    show base + o * r.u.size + (0 + c) * r.u.size ≤ bsize s.W b
    rw [Nat.add_mul] at hbs
    rw [Nat.zero_add]
    omega
   ·exact absurd rfl hne
 ·obtain ⟨ady, news, rfl, hln, hnc, hne⟩ := sl_elems h hy hd rfl hm
  rcases Nat.lt_or_ge c (n + ys.length) with hg | hg
  ·-- no room
   have hA : A = none → n = 0 ∧ c = 0 := by
    intro hA
    rcases hc with hc | ⟨b, base, _, hA', _⟩
    ·exact ⟨by omega, hc⟩
    ·rw [hA] at hA'; cases hA'
   obtain ⟨cap, hcap, hrun⟩ := run_append_any (P := P) (W := s.W) (ty := ty) (cy := cy) ht hi hz hA (by rw [hsz]; exact hol) holc (by rw [hsz]; exact hln) hnc hm hg (by rw [hbt]; exact hb0) (by rw [hbt]; exact hby)
   obtain ⟨t', a1, a2, a3, a4, a5, a6⟩ := grown_ok m1 (key := key) hu hk hzp (xs := (r.xs.drop o).take n) (ys := ys) (olds := ol) (news := news) (by rw [hzl]; exact hol) hln hole hne e z.cells cap (by rw [hzl]; exact hcap) hzs
   rw [hzl] at a5 a6
   exact ⟨t', a1, a2, x1.trans a3, fun q hq => (a4 q hq).imp id (fun e => by omega), _, by rw [a5]; exact hrun, a6⟩
  ·-- room
   rcases hc with hc | ⟨b, base, hp, rfl, hbs⟩
   ·omega
   have hf := free_delRow h hr hw hp
   obtain ⟨_, _, h3⟩ := h.row k r hr
   rcases h3 with h3 | ⟨b', base', cur, t', e', hh, _, _, hs, hx⟩
   ·rw [h3.2] at hp; cases hp
   rw [hp] at e'
   injection e' with e'
   injection e' with e1 e2
   subst e1 e2
   rw [bsize_at hh] at hbs
   have hg2 : (n + ys.length) * r.u.size ≤ c * r.u.size := Nat.mul_le_mul_right _ hg
   rw [Nat.add_mul] at hg2 hbs
   have hone : ∀ v ∈ news, v.oneCell' = true := news_one (xs := ys) hln hne
   obtain ⟨W', hrun, hws⟩ := run_append_here (P := P) (W := s.W) (ty := ty) (cy := cy) (o := base + o * r.u.size) (n := n) (c := c) ht hi hh ady ys.length news (by rw [hsz]; exact hln) hnc hone hg (by rw [hsz]; omega)
   rw [hsz] at hws
   have m2 := memOk_freeSet m1 hf hws
   have x2 := ext_freeSet m1 hf hws
   obtain ⟨cs0, t0, g1, g2, g3⟩ := hws.here
   have hon2 : (o + n) * r.u.size ≤ r.xs.length * r.u.size := Nat.mul_le_mul_right _ hon
   rw [Nat.add_mul] at hon2
   rw [hh] at g1
   injection g1 with g1
   injection g1 with g1 g1' _
   subst g1 g1'
   have hfit : base + o * r.u.size + n * r.u.size + news.length ≤ cur.toList.length := by simp; omega
   have hra : RowAt ((s.delRow k).setW W') ⟨r.u, (r.xs.drop o).take n ++ ys, true⟩ b (base + o * r.u.size) := by
    refine rowAt_two g2 (by rw [hzl, g3, Nat.add_mul]; omega) (fun q x hq => ?_) (fun q x hq => ?_)
    ·have hqn : q < n := by
      have := (List.getElem?_eq_some_iff.1 hq).1
      omega
     have hq1 : (q + 1) * r.u.size ≤ n * r.u.size := Nat.mul_le_mul_right _ hqn
     rw [Nat.succ_mul] at hq1
     rw [List.getElem?_take, if_pos hqn, List.getElem?_drop] at hq
     obtain ⟨c', hc', hcc⟩ := hx _ x hq
     refine ⟨c', hc'.monoC x2.i x2.cw, fun j v hj => ?_⟩
     have hjl : j < r.u.size := by
      have := (List.getElem?_eq_some_iff.1 hj).1
      rw [hc'.len] at this
      exact this
     have := hcc j v hj
     rw [Nat.add_mul] at this
     rw [List.getElem?_toArray, splice_get hfit, if_neg (by omega)]
     rw [show base + o * r.u.size + q * r.u.size + j = base + (o * r.u.size + q * r.u.size) + j by omega]
     simpa using this
    ·have hr' := hne q x hq
     have hql := (List.getElem?_eq_some_iff.1 hq).1
     refine ⟨_, hr'.monoC x2.i x2.cw, fun j v hj => ?_⟩
     have := relD_chunk_cells hr' hj
     have hjl := (List.getElem?_eq_some_iff.1 this).1
     rw [List.getElem?_toArray, hzl, splice_get hfit, Nat.add_mul, if_pos (by omega)]
     rw [show base + o * r.u.size + (n * r.u.size + q * r.u.size) + j - (base + o * r.u.size + n * r.u.size) = q * r.u.size + j by omega]
     exact this
   have m3 := memOk_addRow m2 (key := key) (pl := some (b, base + o * r.u.size)) (r := ⟨r.u, (r.xs.drop o).take n ++ ys, true⟩) hu hk hzp rfl (.inr ⟨_, _, rfl, free_setW hf W', hra⟩)
   refine ⟨_, rfl, m3, (x1.trans x2).trans (ext_addRow hu), fun q hq => hq.imp id (fun e => by omega), _, hrun, .inr ⟨[_], relT_of ?_, rfl⟩⟩
   simp only [RelC]
   refine ⟨.inr rfl, _, rfl, rfl, fun r' hr' => ?_⟩
   rcases addRow_geo hr' with ⟨_, rfl⟩ | ⟨hne, _⟩
   ·have hl : ((r.xs.drop o).take n ++ ys).length = n + ys.length := by rw [List.length_append, hzl]
    refine ⟨some ⟨b, base + o * r.u.size, none⟩, c, by show _ = Value.slice _ _ c; rw [hl], by show _ ≤ c; rw [hl]; exact hg, .inr ⟨b, base + o * r.u.size, by simp [S4.addRow], by simp, ?_⟩⟩
    show base + o * r.u.size + (0 + c) * r.u.size ≤ bsize W' b
    rw [hws.bsize, bsize_at hh, Nat.zero_add]
    omega
   ·exact absurd rfl hne
def S4.holeD (s : S4) (k : Nat) (D : V) : S4 := { s with H := s.H.setVar k D }
theorem holeD_var {s : S4} {k : Nat} {D : V} {l : Nat} {d : V} (h : (s.holeD k D).H.var l = some d) : (l = k ∧ d = D) ∨ (l ≠ k ∧ s.H.var l = some d) := by
 unfold S4.holeD HF.setVar at h
 by_cases e : l = k
 ·subst e; simp at h; exact .inl ⟨rfl, h.symm⟩
 ·simp [nbeq e] at h; exact .inr ⟨e, h⟩
theorem ext_holeD {B : Nat} {s : S4} (h : MemOk B s) {k : Nat} {v r : U} {xs : List (List v.T × r.T)} {q : Nat} {ho : Option Nat} (hc : s.H.var k = some (.drow v r xs q ho)) (i : Nat) : Ext B s (s.holeD k (.drow v r xs q (some i))) where
 i := fun _ h => h
 inew := fun _ h => .inl h
 w := fun _ _ => .eq rfl rfl
 below := Below.refl _ _
 u := fun _ h => h
 nx := Nat.le_refl _
 var := fun l d hl hd => by
  obtain ⟨hd, h1⟩ := pv_var hd
  rcases holeD_var hd with ⟨rfl, rfl⟩ | ⟨_, hd⟩
  ·cases h1
  ·exact ⟨d, var_pv hd h1, rfl, rfl⟩
 row := fun l g hl' hg => by
  refine ⟨?_, fun b _ _ => rfl⟩
  by_cases e : l = k
  ·subst e
   have h0 := (h.hk l _ hc rfl).1
   unfold HF.geo at hg ⊢
   have h1 : (s.holeD l (.drow v r xs q (some i))).H.row l = s.H.row l := rfl
   have h2 : (s.holeD l (.drow v r xs q (some i))).H.var l = some (.drow v r xs q (some i)) := by simp [S4.holeD, HF.setVar]
   rw [h1, h2, h0] at hg
   rw [h0, hc]
   exact hg
  ·have hv : (s.holeD k (.drow v r xs q (some i))).H.var l = s.H.var l := by simp [S4.holeD, HF.setVar, nbeq e]
   rw [← geo_eq (H := s.H) (H2 := (s.holeD k (.drow v r xs q (some i))).H) rfl hv]; exact hg
 pl := fun _ _ => rfl
theorem memOk_holeD {B : Nat} {s : S4} (h : MemOk B s) {k : Nat} {v r : U} {xs : List (List v.T × r.T)} {q : Nat} (hc : s.H.var k = some (.drow v r xs q none)) (i : Nat) : MemOk B (s.holeD k (.drow v r xs q (some i))) ∧
  (∀ b, Tk (s.holeD k (.drow v r xs q (some i))) b → Tk s b) ∧ ∀ l j b, InB (s.holeD k (.drow v r xs q (some i))) l j b → InB s l j b ∧ ¬ (l = k ∧ j = i) := by
 have e := ext_holeD h hc i
 have hT : ∀ b, Tk (s.holeD k (.drow v r xs q (some i))) b → Tk s b := by
  rintro b (ht | ⟨l, d, hl, hb⟩ | ht)
  ·exact .inl ht
  ·rcases holeD_var hl with ⟨rfl, rfl⟩ | ⟨hne, hl⟩
   ·exact .inr (.inl ⟨l, _, hc, hb⟩)
   ·exact .inr (.inl ⟨l, d, hl, hb⟩)
  ·exact .inr (.inr ht)
 have back : ∀ l j b, InB (s.holeD k (.drow v r xs q (some i))) l j b → InB s l j b ∧ ¬ (l = k ∧ j = i) := by
  rintro l j b ⟨v', r', xs', q', ho', h1, h2, h3, o, len, cap, h4, h5⟩
  rcases holeD_var h1 with ⟨rfl, hd'⟩ | ⟨hl, h1⟩
  ·injection hd' with d1 d2 d3 d4 d5
   subst d1 d2
   have d3 := eq_of_heq d3
   subst d3 d4 d5
   exact ⟨⟨v', r', _, _, none, hc, h2, (by intro h; cases h), o, len, cap, h4, h5⟩, fun hh => h3 (by rw [hh.2])⟩
  ·exact ⟨⟨v', r', xs', q', ho', h1, h2, h3, o, len, cap, h4, h5⟩, fun hh => hl hh.1⟩
 refine ⟨⟨h.ilt, h.bsz, h.un, ?_, h.row, ?_, h.rr, ?_, fun l d hd h1 => ?_, ⟨?_, fun l j l' j' b h1 h2 => h.dj.one l j l' j' b (back l j b h1).1 (back l' j' b h2).1⟩⟩, hT, back⟩
 ·intro l d hd
  rcases holeD_var hd with ⟨rfl, rfl⟩ | ⟨hne, hd⟩
  ·obtain ⟨h1, h2, h3, o, h4, h5⟩ := h.var l _ hc
   exact ⟨h1, h2, h3, o, h4, h5⟩
  ·obtain ⟨h1, h2, h3, o, h4, h5⟩ := h.var l d hd
   exact ⟨h1, h2, h3, o, h4, RelO.ext e h5⟩
 ·intro a b d d' hab h1 h2
  rcases holeD_var h1 with ⟨rfl, rfl⟩ | ⟨_, g1⟩ <;> rcases holeD_var h2 with ⟨rfl, rfl⟩ | ⟨_, g2⟩
  ·exact absurd rfl hab
  ·exact h.vv _ _ _ _ hab hc g2
  ·exact h.vv _ _ _ _ hab g1 hc
  ·exact h.vv _ _ _ _ hab g1 g2
 ·intro a b d r x y h1 h2 w p
  rcases holeD_var h1 with ⟨rfl, rfl⟩ | ⟨_, h1⟩
  ·exact h.vr _ _ _ _ _ _ hc h2 w p
  ·exact h.vr _ _ _ _ _ _ h1 h2 w p
 ·rcases holeD_var hd with ⟨rfl, rfl⟩ | ⟨_, hd⟩
  ·obtain ⟨g1, g2, _⟩ := h.hk l _ hc rfl
   exact ⟨g1, g2, .inr ⟨_, _, _, _, _, rfl⟩⟩
  ·exact h.hk l d hd h1
 ·intro l v' r' xs' q' ho' h1
  have din : ∀ {w : U} {ys : List w.T} {hd : Value}, DIn B s w ys hd → DIn B (s.holeD k (.drow v r xs q (some i))) w ys hd := by
   rintro w ys hd ⟨A, cap, rfl, g1, g2⟩
   refine ⟨A, cap, rfl, g1, g2.imp id ?_⟩
   rintro ⟨b, o, cur, t, f1, f2, f3, f4, f5⟩
   exact ⟨b, o, cur, t, f1, f2, f3, fun ht => f4 (hT b ht), f5⟩
  rcases holeD_var h1 with ⟨rfl, hd'⟩ | ⟨hl, h1⟩
  ·injection hd' with d1 d2 d3 d4 d5
   subst d1 d2
   have d3 := eq_of_heq d3
   subst d3 d4 d5
   obtain ⟨u1, u2, u3, base, cs, ty, f1, f2, f3, f4⟩ := h.dj.el _ _ _ _ _ _ hc
   refine ⟨u1, u2, u3, base, cs, ty, f1, f2, f3, fun j x hj _ => ?_⟩
   obtain ⟨c1, c2, c3⟩ := f4 j x hj (by intro h; cases h)
   exact ⟨c1, din c2, c3⟩
  ·obtain ⟨u1, u2, u3, base, cs, ty, f1, f2, f3, f4⟩ := h.dj.el _ _ _ _ _ _ h1
   refine ⟨u1, u2, u3, base, cs, ty, f1, f2, f3, fun j x hj hh => ?_⟩
   obtain ⟨c1, c2, c3⟩ := f4 j x hj hh
   exact ⟨c1, din c2, c3⟩
theorem takeD_ok {B : Nat} {s : S4} (h : MemOk B s) {k : Nat} {v r : U} {xs : List (List v.T × r.T)} {q : Nat} (hc : s.H.var k = some (.drow v r xs q none)) {i : Nat} (hi : i < xs.length) {key : Nat} (hu : ¬ s.U key) (hn : key < s.H.nx) :
  ∃ t : S4, t.H = (s.H.setVar k (.drow v r xs q (some i))).setRow key ⟨v, xs[i].1, true⟩ ∧ t.W = s.W ∧ MemOk B t ∧ Ext B s t ∧ (∀ x, t.U x → s.U x ∨ x = key) ∧
   ∀ A len cap n, s.ρ.fam q i = .slice A len cap → n ≤ len → RowV t.W (t.ρ.row key) v.size 0 n (.slice A n cap) ∧ len = xs[i].1.length := by
 obtain ⟨m1, hT, back⟩ := memOk_holeD h hc i
 have x1 := ext_holeD h hc i
 obtain ⟨_, _, _, hz, base, cs, ty, hp, hb, hsz, hel⟩ := drow_at h hc
 obtain ⟨_, ⟨A, cap, d2, d3, d4⟩, _⟩ := hel i _ (List.getElem?_eq_getElem hi) (by intro h; cases h)
 rcases Nat.eq_zero_or_pos cap with h0 | h0
 ·have hys : xs[i].1 = [] := List.eq_nil_of_length_eq_zero (by omega)
  refine ⟨(s.holeD k (.drow v r xs q (some i))).addRow key none ⟨v, xs[i].1, true⟩, rfl, rfl, memOk_addRow m1 (key := key) (pl := none) (r := ⟨v, xs[i].1, true⟩) hu hn hz rfl (.inl ⟨hys, rfl⟩), x1.trans (ext_addRow hu), fun x hx => hx, fun A' len cap' n hf hn' => ?_⟩
  rw [d2] at hf
  injection hf with e1 e2 e3
  subst e1 e2 e3
  exact ⟨⟨A, cap, rfl, by omega, .inl h0⟩, rfl⟩
 ·rcases d4 with d4 | ⟨b, o, cur, t', rfl, g2, g3, g4, g5, g6⟩
  ·omega
  ·have hin : InB s k i b := ⟨v, r, xs, q, none, hc, hi, (by intro h; cases h), o, _, cap, d2, h0⟩
   have hf : Free B (s.holeD k (.drow v r xs q (some i))) b := by
    refine ⟨g3, fun hI => g4 (.inl hI), fun l d hl hbb => g4 (hT b (.inr (.inl ⟨l, d, hl, hbb⟩))), fun l d b0 hl hw hbb => g4 (hT b (.inr (.inr ⟨l, d, b0, hl, hw, hbb⟩))), fun l j hlj => ?_⟩
    obtain ⟨q1, q2⟩ := back l j b hlj
    exact q2 (h.dj.one l j k i b q1 hin)
   have hra : RowAt (s.holeD k (.drow v r xs q (some i))) ⟨v, xs[i].1, true⟩ b o := by
    refine ⟨cur, t', g2, ?_, fun j y hj => g6 j y hj⟩
    have : xs[i].1.length * v.size ≤ cap * v.size := Nat.mul_le_mul_right _ d3
    show o + xs[i].1.length * v.size ≤ cur.size
    omega
   refine ⟨(s.holeD k (.drow v r xs q (some i))).addRow key (some (b, o)) ⟨v, xs[i].1, true⟩, rfl, rfl, memOk_addRow m1 (key := key) (pl := some (b, o)) (r := ⟨v, xs[i].1, true⟩) hu hn hz rfl (.inr ⟨b, o, rfl, hf, hra⟩), x1.trans (ext_addRow hu), fun x hx => hx, fun A' len cap' n hf hn' => ?_⟩
   rw [d2] at hf
   injection hf with e1 e2 e3
   subst e1 e2 e3
   refine ⟨⟨_, cap, rfl, by omega, .inr ⟨b, o, by simp [S4.addRow], by simp, ?_⟩⟩, rfl⟩
   show o + (0 + cap) * v.size ≤ bsize s.W b
   rw [bsize_at g2, Nat.zero_add]
   exact g5
theorem appendD_ok {P : Program} {B : Nat} {s : S4} (h : MemOk B s) {t ty e : TypeId} {u : U} {bytes : Nat} (ht : P.underlying t = some (.slice e)) (he : ElemFact P e u bytes) (hb0 : 0 < bytes) {key : Nat} (hu : ¬ s.U key) (hu1 : ¬ s.U (key + 1)) (hk : key + 1 < s.H.nx)
  {k q i n : Nat} {y v' : V} {vx vy : Value} {H' : HF} {ys : List u.T} (hx : RelV s (.dsl k q i n) vx) (hy : RelV s y vy) (hd : deepen s.H (.sl u) y = some ys) (hto : (appendD s.H key u bytes k q i n ys (s.H.var k)).to v' H') : ValOk B s key ((Builtin.append_ #[t, t] ty #[vx, vy]).run P s.W) v' H' := by
 unfold appendD at hto
 split at hto
 ·rename_i v r xs q' hcv
  split at hto
  ·rename_i hqq
   have hqq := nat_beq hqq
   subst hqq
   split at hto
   ·rename_i zs hcast
    rcases hto with ⟨hi, ⟨hby, rfl, rfl⟩ | ⟨_, hto⟩⟩ | ⟨_, hto⟩
    ·have hi := blt_lt hi
     have hby := of_decide_eq_true hby
     obtain ⟨e1, e2⟩ := castT_some hcast
     have e1 : v = u := by injection e1
     subst e1
     have ex : (xs.getD i ([], r.zero)) = xs[i] := by simp [List.getD, hi]
     rw [ex] at e2
     have e2 : xs[i].1.take n = zs := by simpa using e2
     subst e2
     obtain ⟨hU, A, len, cap, f1, rfl, f2, f3⟩ := dsl_at hx
     obtain ⟨t1, a1, a2, a3, a4, a5, a6⟩ := takeD_ok h hcv hi hu1 hk
     obtain ⟨b1, b2⟩ := a6 A len cap n f1 f2
     have hr1 : t1.H.row (key + 1) = some ⟨v, xs[i].1, true⟩ := by rw [a1]; simp [HF.setRow]
     have hnx : t1.H.nx = s.H.nx := by rw [a1]; rfl
     have hd1 : deepen t1.H (.sl v) y = some ys := by
      rw [a1]
      cases y with
      | row j =>
       simp only [deepen] at hd ⊢
       have hj : (HF.setRow (s.H.setVar k (.drow v r xs q (some i))) (key + 1) ⟨v, xs[i].1, true⟩).row j = s.H.row j := by
        have : j ≠ key + 1 := by
         rintro rfl
         cases hh : s.H.row (key + 1) with
         | none => rw [hh] at hd; cases hd
         | some r0 => exact hu1 (h.row _ _ hh).1
        simp [HF.setRow, HF.setVar, nbeq this]
       rw [hj]; exact hd
      | rsub j o m =>
       simp only [deepen] at hd ⊢
       have hj : (HF.setRow (s.H.setVar k (.drow v r xs q (some i))) (key + 1) ⟨v, xs[i].1, true⟩).row j = s.H.row j := by
        have : j ≠ key + 1 := by
         rintro rfl
         cases hh : s.H.row (key + 1) with
         | none => rw [hh] at hd; cases hd
         | some r0 => exact hu1 (h.row _ _ hh).1
        simp [HF.setRow, HF.setVar, nbeq this]
       rw [hj]; exact hd
      | _ => first | (simp only [deepen] at hd ⊢; exact hd) | (simp [deepen] at hd)
     have hzl : ((xs[i].1.take n).length) = n := by rw [List.length_take, ← b2]; exact Nat.min_eq_left f2
     have R := append_row (P := P) (ty := ty) a3 ht he hb0 (key := key) (fun hk' => by rcases a5 key hk' with hk' | hk'; exact hu hk'; omega) (by rw [hnx]; omega) hr1 rfl rfl (o := 0) (n := n) (by show 0 + n ≤ xs[i].1.length; omega) b1 (hy.ext a4) hd1 (by rw [← hzl]; exact hby)
     obtain ⟨t2, c1, c2, c3, c4, x, c5, c6⟩ := R
     refine ⟨t2, ?_, c2, a4.trans c3, fun z hz => ?_, x, by rw [← a2]; exact c5, c6⟩
     ·rw [c1, a1]
      have hn0 : s.H.row (key + 1) = none := by
       cases hh : s.H.row (key + 1) with
       | none => rfl
       | some r0 => exact absurd (h.row _ _ hh).1 hu1
      show HF.setRow (HF.delRow (HF.setRow (s.H.setVar k (.drow v r xs q (some i))) (key + 1) ⟨v, xs[i].1, true⟩) (key + 1)) key ⟨v, (xs[i].1.drop 0).take n ++ ys, true⟩ = HF.setRow (s.H.setVar k (.drow v r xs q (some i))) key ⟨v, xs[i].1.take n ++ ys, true⟩
      rw [List.drop_zero]
      unfold HF.setRow HF.delRow HF.setVar
      simp only [HF.mk.injEq, true_and, and_true]
      funext j
      cases e3 : Nat.beq j key with
      | true => rfl
      | false =>
       simp only [cond_false]
       cases e4 : Nat.beq j (key + 1) with
       | true =>
        have := nat_beq e4
        subst this
        simp [hn0]
       | false => rfl
     ·rcases c4 z hz with hz | hz
      ·rcases a5 z hz with hz | hz
       ·exact .inl hz
       ·subst hz; exact .inr (by omega)
      ·exact .inr hz
    ·cases hto
    ·cases hto
   ·cases hto
  ·cases hto
 ·cases hto
theorem appendV_ok {P : Program} {B : Nat} {s : S4} (h : MemOk B s) {t ty e : TypeId} {u : U} {bytes : Nat} (ht : P.underlying t = some (.slice e)) (he : ElemFact P e u bytes) (hb0 : 0 < bytes) (hzp : 0 < u.size) {key : Nat} (hu : ¬ s.U key) (hu1 : ¬ s.U (key + 1)) (hk1 : key + 1 < s.H.nx)
  {x y v' : V} {vx vy : Value} {H' : HF} (hx : RelV s x vx) (hy : RelV s y vy) (hto : (appendV s.H key u bytes x y).to v' H') : ValOk B s key ((Builtin.append_ #[t, t] ty #[vx, vy]).run P s.W) v' H' := by
 have hk : key < s.H.nx := by omega
 unfold appendV at hto
 split at hto
 ·cases hto
 ·rename_i ys hd
  obtain ⟨i, z, hi, hsz, hbt, hz, hzc⟩ := he.info
  have hzs : z.cells.size = u.size := by rw [← Array.length_toList, hzc, zcells_len]
  split at hto
  ·-- nil
   rcases hto with ⟨hby, rfl, rfl⟩ | ⟨_, hto⟩
   ·have hby := of_decide_eq_true hby
    obtain ⟨cs, h1, h2⟩ := hx.get (by intro h; cases h) (by intro w h; cases h)
    simp only [RelC] at h1
    subst h1
    have := isVal_one h2 rfl
    subst this
    obtain ⟨Ay, cy, rfl, hcy⟩ := slD_form (sl_of_deepen h hy hd)
    rcases Nat.eq_zero_or_pos ys.length with hm | hm
    ·have hys : ys = [] := List.eq_nil_of_length_eq_zero hm
     subst hys
     obtain ⟨t', a1, a2, a3, a4, a5, a6⟩ := empty_ok h (key := key) hu hk hzp none
     exact ⟨t', a1, a2, a3, fun q hq => (a4 q hq).imp id (fun e => by omega), _, by rw [a5]; exact run_append_none ht hi none Ay 0 0 cy (Nat.le_refl _), a6⟩
    ·obtain ⟨ady, news, rfl, hln, hnc, hne⟩ := sl_elems h hy hd rfl hm
     obtain ⟨cap, hcap, hrun⟩ := run_append_any (P := P) (W := s.W) (ty := ty) (cy := cy) (A := none) (n := 0) (c := 0) (olds := []) ht hi hz (fun _ => ⟨rfl, rfl⟩) (by simp) (fun _ h => by cases h) (by rw [hsz]; exact hln) hnc hm (by omega) (by rw [hbt]; exact hb0) (by rw [hbt, Nat.zero_add]; exact hby)
     obtain ⟨t', a1, a2, a3, a4, a5, a6⟩ := grown_ok h (key := key) hu hk hzp (xs := ([] : List u.T)) (ys := ys) (olds := []) (news := news) (by simp) hln (fun q x hq => by simp at hq) hne e z.cells cap (by simpa using hcap) hzs
     refine ⟨t', by simpa using a1, a2, a3, fun q hq => (a4 q hq).imp id (fun e => by omega), _, by rw [a5]; exact hrun, a6⟩
   ·cases hto
  ·-- full
   rename_i u' xs
   split at hto
   ·rename_i zs hcast
    obtain ⟨e1, e2⟩ := castT_some hcast
    injection e1 with e1
    subst e1
    have e2 : xs = zs := by simpa using e2
    subst e2
    rcases hto with ⟨hcond, ⟨hby, rfl, rfl⟩ | ⟨_, hto⟩⟩ | ⟨_, hto⟩
    ·have hby := of_decide_eq_true hby
     obtain ⟨hsl, A, rfl⟩ := relV_dfull hx
     obtain ⟨Ay, cy, rfl, hcy⟩ := slD_form (sl_of_deepen h hy hd)
     rcases Nat.eq_zero_or_pos ys.length with hm | hm
     ·have hys : ys = [] := List.eq_nil_of_length_eq_zero hm
      subst hys
      have hxs : xs = [] := by simpa using hcond
      subst hxs
      obtain ⟨t', a1, a2, a3, a4, a5, a6⟩ := empty_ok h (key := key) hu hk hzp A
      exact ⟨t', a1, a2, a3, fun q hq => (a4 q hq).imp id (fun e => by omega), _, by rw [a5]; exact run_append_none ht hi A Ay 0 0 cy (Nat.le_refl _), a6⟩
     ·obtain ⟨ady, news, rfl, hln, hnc, hne⟩ := sl_elems h hy hd rfl hm
      have olds : ∃ ol : List Value, ol.length = xs.length * u'.size ∧ (∀ ad, A = some ad → ∀ j v, ol[j]? = some v → s.W.cell? (ad.add j) = some v) ∧ (∀ (q : Nat) (x : u'.T), xs[q]? = some x → RelD s.W s.I u' x ((ol.drop (q * u'.size)).take u'.size)) := by
       rcases Nat.eq_zero_or_pos xs.length with h0 | h0
       ·have hxs : xs = [] := List.eq_nil_of_length_eq_zero h0
        subst hxs
        exact ⟨[], by simp, fun _ _ j v hj => by simp at hj, fun q x hq => by simp at hq⟩
       ·obtain ⟨ad, ol, hA, hl, hcell, hel⟩ := sl_cells hsl h0
        exact ⟨ol, hl, fun ad' hA' => by rw [hA] at hA'; injection hA' with hA'; subst hA'; exact hcell, hel⟩
      obtain ⟨ol, hol, holc, hole⟩ := olds
      have hA : A = none → xs.length = 0 ∧ xs.length = 0 := by
       intro hA
       subst hA
       rcases Nat.eq_zero_or_pos xs.length with h0 | h0
       ·exact ⟨h0, h0⟩
       ·obtain ⟨ad, _, hA, _⟩ := sl_cells hsl h0
        cases hA
      obtain ⟨cap, hcap, hrun⟩ := run_append_any (P := P) (W := s.W) (ty := ty) (cy := cy) ht hi hz hA (by rw [hsz]; exact hol) holc (by rw [hsz]; exact hln) hnc hm (by omega) (by rw [hbt]; exact hb0) (by rw [hbt]; exact hby)
      obtain ⟨t', a1, a2, a3, a4, a5, a6⟩ := grown_ok h (key := key) hu hk hzp (xs := xs) (ys := ys) (olds := ol) (news := news) hol hln hole hne e z.cells cap hcap hzs
      exact ⟨t', a1, a2, a3, fun q hq => (a4 q hq).imp id (fun e => by omega), _, by rw [a5]; exact hrun, a6⟩
    ·cases hto
    ·cases hto
   ·cases hto
  ·-- a row
   rename_i k
   split at hto
   ·rename_i r hr
    split at hto
    ·rename_i hw
     simp only [Bool.and_eq_true] at hw
     split at hto
     ·rename_i zs hcast
      obtain ⟨e1, e2⟩ := castT_some hcast
      injection e1 with e1
      rcases hto with ⟨hby, rfl, rfl⟩ | ⟨_, hto⟩
      ·have hby := of_decide_eq_true hby
       obtain ⟨_, _, hv⟩ := relV_row hx
       have hzl : zs.length = r.xs.length := by
        subst e1
        have e2 : r.xs = zs := by simpa using e2
        rw [e2]
       have := append_row (P := P) (ty := ty) h ht he hb0 hu hk hr hw.1 e1 (o := 0) (n := r.xs.length) (by omega) (hv r hr) hy hd (by rw [← hzl]; exact hby)
       have hzz : (e1 ▸ ((r.xs.drop 0).take r.xs.length) : List u.T) = zs := by
        subst e1
        simpa using e2
       rw [hzz] at this
       exact this
      ·cases hto
     ·cases hto
    ·cases hto
   ·cases hto
  ·rename_i k o n
   split at hto
   ·rename_i r hr
    split at hto
    ·rename_i hw
     simp only [Bool.and_eq_true] at hw
     split at hto
     ·rename_i zs hcast
      obtain ⟨e1, e2⟩ := castT_some hcast
      injection e1 with e1
      rcases hto with ⟨hby, rfl, rfl⟩ | ⟨_, hto⟩
      ·have hby := of_decide_eq_true hby
       obtain ⟨_, _, hv⟩ := relV_rsub hx
       have hzl : zs.length = n := by
        subst e1
        have e2 : (r.xs.drop o).take n = zs := by simpa using e2
        rw [← e2]
        have := (hv r hr).1
        simp; omega
       have := append_row (P := P) (ty := ty) h ht he hb0 hu hk hr hw.1 e1 (o := o) (n := n) (hv r hr).1 (hv r hr).2 hy hd (by rw [← hzl]; exact hby)
       have hzz : (e1 ▸ ((r.xs.drop o).take n) : List u.T) = zs := by
        subst e1
        simpa using e2
       rw [hzz] at this
       exact this
      ·cases hto
     ·cases hto
    ·cases hto
   ·cases hto
  ·exact appendD_ok h ht he hb0 hu hu1 hk1 hx hy hd hto
  ·cases hto
end Go.Proofs.YtdokfjkihjkcmaaGreatDoor.Den
