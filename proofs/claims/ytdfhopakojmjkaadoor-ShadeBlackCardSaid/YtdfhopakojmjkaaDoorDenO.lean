/- Calls: of builtins, and of functions that a summary tells. -/
import Derived.Test.YtdfhopakojmjkaaDoorDenOa
namespace Go.Proofs.YtdfhopakojmjkaaDoor.Den
open Go Go.RowKit
set_option linter.unusedVariables false
set_option linter.unusedSectionVars false

/-! ### builtins -/
theorem abuiltin_ok {P : Program} {E : TE} (hE : TEok P E) {B : Nat} {s : S4} (h : MemOk B s) {key : Nat} (hu : ¬ s.U key) (hk : key < s.H.nx) {T : TF} {a : Act} (hT : TRel s T a.tmps) {b : Builtin} {c : Call} (hc : c.callee = .builtin b) {type : TypeId} {v : V} {H' : HF}
    (hto : (abuiltin E key T s.H b c.args.toList c.argTypes.toList).to v H') : OpOk B s key ((do let d ← resolve a.eval c type; invoke d.target d.args : Sem Next).run P s.W) v H' := by
  have hr : ((do let d ← resolve a.eval c type; invoke d.target d.args : Sem Next).run P s.W) = (builtin b c.argTypes type (c.args.map fun | .const _ => true | _ => false) (c.args.map a.eval)).run P s.W := by
    simp [resolve, hc, invoke]
    rfl
  rw [hr]
  unfold abuiltin at hto
  split at hto
  · rename_i x t hx ht
    have e1 : c.args.map a.eval = #[a.eval x] := by apply Array.ext'; simp [hx]
    have e2 : c.argTypes = #[t] := by apply Array.ext'; simp [ht]
    split at hto
    · rename_i u hut
      split at hto
      · rename_i n hn
        obtain ⟨rfl, rfl⟩ := hto
        obtain ⟨e, hte, he⟩ := hE.elem t u hut
        obtain ⟨A, m, cc, hX, rfl, _⟩ := lenV_ok (evO_rel hT x) hn
        refine OpOk.same h (x := .int .i64 m) ?_ int_relV
        rw [e1, e2, hX]
        simp [builtin, Builtin.len_, run_underlying hte]
        rfl
      · cases hto
    · cases hto
  · rename_i x y t t' hx ht
    have e1 : c.args.map a.eval = #[a.eval x, a.eval y] := by apply Array.ext'; simp [hx]
    have e2 : c.argTypes = #[t, t'] := by apply Array.ext'; simp [ht]
    split at hto
    · rename_i u hut
      split at hto
      · rename_i hq
        simp only [Bool.and_eq_true] at hq
        have ett := nat_beq hq.1.1
        subst ett
        have hz : 0 < u.size := by simpa [Nat.blt_eq] using hq.1.2
        have hb : 0 < E.ebytes t := by simpa [Nat.blt_eq] using hq.2
        obtain ⟨e, hte, he⟩ := hE.elem t u hut
        rw [e1, e2]
        exact .ofVal (appendV_ok h hte he hb hz hu hk (evO_rel hT x) (evO_rel hT y) hto)
      · cases hto
    · cases hto
  · rename_i x t hx ht
    have e1 : c.args.map a.eval = #[a.eval x] := by apply Array.ext'; simp [hx]
    have e2 : c.argTypes = #[t] := by apply Array.ext'; simp [ht]
    split at hto
    · rename_i u hut
      obtain ⟨e, hte, he⟩ := hE.elem t u hut
      rw [e1, e2]
      exact .ofVal (clearV_ok h hte he hk (evO_rel hT x) hto)
    · cases hto
  · rename_i x y t t' hx ht
    have e1 : c.args.map a.eval = #[a.eval x, a.eval y] := by apply Array.ext'; simp [hx]
    have e2 : c.argTypes = #[t, t'] := by apply Array.ext'; simp [ht]
    split at hto
    · rename_i u hut
      obtain ⟨e, hte, he⟩ := hE.elem t u hut
      rw [e1, e2]
      exact .ofVal (copyV_ok h hte he hk (evO_rel hT x) (evO_rel hT y) hto)
    · cases hto
  · rename_i x t hx ht
    have e1 : c.args.map a.eval = #[a.eval x] := by apply Array.ext'; simp [hx]
    have e2 : c.argTypes = #[t] := by apply Array.ext'; simp [ht]
    split at hto
    · rename_i u hut
      obtain ⟨e, hte, he⟩ := hE.elem t u hut
      split at hto
      · rename_i hn
        obtain ⟨rfl, rfl⟩ := hto
        obtain ⟨cs, h1, h2⟩ := (evO_is hT hn).get (by intro h; cases h) (by intro w h; cases h)
        simp only [RelC] at h1
        subst h1
        have h2 := isVal_one h2 rfl
        refine OpOk.same h (x := .int .i64 0) ?_ int_relV
        rw [e1, e2, h2]
        simp [builtin, Builtin.cap_, run_underlying hte]
        rfl
      · cases hto
    · cases hto
  · rename_i x y t t' hx ht
    have e1 : c.args.map a.eval = #[a.eval x, a.eval y] := by apply Array.ext'; simp [hx]
    split at hto
    · rename_i k p hp
      split at hto
      · rename_i k' q hq
        obtain ⟨rfl, rfl⟩ := hto
        refine OpOk.same h (x := .int k (bif decide (q < p) then q else p)) ?_ int_relV
        rw [e1, evO_int hT hp, evO_int hT hq]
        simp [builtin, Builtin.min_, Builtin.min2]
      · cases hto
    · cases hto
  · rename_i x y t t' hx ht
    have e1 : c.args.map a.eval = #[a.eval x, a.eval y] := by apply Array.ext'; simp [hx]
    split at hto
    · rename_i k p hp
      split at hto
      · rename_i k' q hq
        obtain ⟨rfl, rfl⟩ := hto
        refine OpOk.same h (x := .int k (bif decide (p < q) then q else p)) ?_ int_relV
        rw [e1, evO_int hT hp, evO_int hT hq]
        simp [builtin, Builtin.max_, Builtin.max2]
      · cases hto
    · cases hto
  · cases hto

/-! ### what a summary says -/
structure Enters (P : Program) (f : FuncId) : Prop where
  fn : ∃ fn, P.funcs[f]? = some fn ∧ (fn.name == "runtime.NumGoroutine") = false ∧ fn.body.isNone = false
theorem Enters.run {P : Program} {f : FuncId} (h : Enters P f) (args : Array Value) (W : World) : (callFunc f args).run P W = .ok (.enter f args) W := by
  obtain ⟨fn, h1, h2, h3⟩ := h.fn
  have n2 : ¬ fn.name = "runtime.NumGoroutine" := by simpa using h2
  have n3 : ¬ fn.body = none := by
    intro e
    simp [e] at h3
  simp [callFunc, h1, n2, n3]

def RU.agg : RU → Bool
  | .d u => u.agg
  | .own _ => false
  | .nil => true
  | .cons _ _ => true
def RU.size : RU → Nat
  | .d u => u.size
  | .own _ => 1
  | .nil => 0
  | .cons a b => a.size + b.size

/-- Arguments: each a value of its own. -/
def RelArgs (W : World) (I : Nat → Prop) : (a : U) → a.T → List Value → Prop
  | .cons a b, x, l => ∃ v r cs, l = v :: r ∧ RelD W I a x.1 cs ∧ IsVal a.agg cs v ∧ RelArgs W I b x.2 r
  | .nil, _, l => l = []
  | _, _, _ => False
/-- A row that is the call's own, new: its block (none: it has no room). -/
def OwnAt (W : World) (I : Nat → Prop) (B : Nat) (u : U) (xs : List u.T) (v : Value) (bs : List Nat) : Prop :=
  0 < u.size ∧ ∃ pl : Option (Nat × Nat), RowV W pl u.size 0 xs.length v ∧ bs = (pl.map Prod.fst).toList ∧ (pl = none → xs = []) ∧
    ∀ b base, pl = some (b, base) → B ≤ b ∧ ¬ I b ∧ ∃ cur t, W.heap[b]? = some (.cells cur t (0, 0)) ∧ base + xs.length * u.size ≤ cur.size ∧
      ∀ (i : Nat) (x : u.T), xs[i]? = some x → ∃ c, RelD W I u x c ∧ ∀ (j : Nat) (v : Value), c[j]? = some v → cur[base + i * u.size + j]? = some v
def RelR (W : World) (I : Nat → Prop) (B : Nat) : (r : RU) → r.T → List Value → List Nat → Prop
  | .d u, x, cs, bs => RelD W I u x cs ∧ bs = []
  | .own u, xs, cs, bs => ∃ v, cs = [v] ∧ OwnAt W I B u xs v bs
  | .nil, _, cs, bs => cs = [] ∧ bs = []
  | .cons a b, x, cs, bs => ∃ c1 c2 b1 b2, cs = c1 ++ c2 ∧ bs = b1 ++ b2 ∧ RelR W I B a x.1 c1 b1 ∧ RelR W I B b x.2 c2 b2
/-- Results: each a value of its own. -/
def RelRs (W : World) (I : Nat → Prop) (B : Nat) : (r : RU) → r.T → List Value → List Nat → Prop
  | .cons a b, x, l, bs => ∃ v r cs b1 b2, l = v :: r ∧ bs = b1 ++ b2 ∧ RelR W I B a x.1 cs b1 ∧ IsVal a.agg cs v ∧ RelRs W I B b x.2 r b2
  | .nil, _, l, bs => l = [] ∧ bs = []
  | _, _, _, _ => False
def outValue (l : List Value) : Value := match l with
  | [v] => v
  | l => .tuple l.toArray

/-- A function does as its summary tells. -/
structure SemOf (P : Program) (f : FuncId) (sm : Sum) : Prop where
  enters : Enters P f
  calls : ∀ (W : World) (I : Nat → Prop), (∀ b, I b → b < W.heap.size) → GlobW W I → ∀ (x : sm.a.T) (args : List Value) (r : sm.r.T), RelArgs W I sm.a x args → sm.F x = some r →
    Calls P f args.toArray W fun e W' => ∃ l bs I', e = .returned (outValue l) ∧ Below W.heap.size W W' ∧ (∀ b, I' b → (I b ∨ W.heap.size ≤ b) ∧ b < W'.heap.size) ∧ RelRs W' I' W.heap.size sm.r r l bs ∧ bs.Nodup

/-! ### behind a call -/
theorem RelD.noSl {W : World} {I I' : Nat → Prop} : ∀ {u : U} {x : u.T} {cs : List Value}, RU.anyD.go u = false → RelD W I u x cs → RelD W I' u x cs
  | .int _, _, _, _, h => h
  | .bool, _, _, _, h => h
  | .sl _, _, _, hg, _ => by simp [RU.anyD.go] at hg
  | .arr n u, _, _, hg, h => ⟨h.1, h.2.1, fun i x hi => RelD.noSl (by simpa [RU.anyD.go] using hg) (h.2.2 i x hi)⟩
  | .nil, _, _, _, h => h
  | .cons a b, _, _, hg, h => by
    simp only [RU.anyD.go, Bool.or_eq_false_iff] at hg
    obtain ⟨c1, c2, rfl, h1, h2⟩ := h
    exact ⟨c1, c2, rfl, RelD.noSl hg.1 h1, RelD.noSl hg.2 h2⟩

/-- The state behind a call: what was there is the same; some new blocks are read from now on. -/
def S4.afterCall (s : S4) (W' : World) (I' : Nat → Prop) : S4 := { s with W := W', I := fun b => s.I b ∨ (I' b ∧ s.W.heap.size ≤ b) }
theorem afterCall_ok {B : Nat} {s : S4} (h : MemOk B s) {W' : World} {I' : Nat → Prop} (hb : Below s.W.heap.size s.W W') (hI : ∀ b, I' b → b < W'.heap.size) : MemOk B (s.afterCall W' I') ∧ Ext B s (s.afterCall W' I') := by
  have k : WKeep B s W' := ⟨hb.mono h.bsz, hb.size, fun b hlt => hb.block b hlt⟩
  have m := k.memOk h
  have x : Ext B s (s.afterCall W' I') := {
    i := fun b hb => .inl hb
    inew := fun b hb => by
      rcases hb with hb | ⟨_, hb⟩
      · exact .inl hb
      · exact .inr (Nat.le_trans h.bsz hb)
    w := fun b hb => k.old b (h.ilt b hb)
    below := k.below
    u := fun _ hk => hk
    nx := Nat.le_refl _
    var := fun x c _ hc => ⟨c, hc, rfl, rfl⟩
    row := fun x r _ hr => ⟨r, hr, rfl, rfl, rfl, fun b base hp => bsize_of (k.old b (h.rowlt hr hp))⟩ }
  refine ⟨⟨?_, m.bsz, m.un, ?_, ?_, m.vv, m.rr, m.vr⟩, x⟩
  · rintro b (hb' | ⟨hb', _⟩)
    · exact m.ilt b hb'
    · exact hI b hb'
  · intro y c hc
    obtain ⟨h1, h2, h3, cs, t, h4, h5⟩ := h.var y c hc
    refine ⟨h1, h2, ?_, cs, t, (k.old _ (heap_lt h4)).trans h4, RelC.ext x h5⟩
    rintro (hb' | ⟨_, hb'⟩)
    · exact h3 hb'
    · exact Nat.not_le_of_lt (heap_lt h4) hb'
  · intro y r hr
    obtain ⟨h1, h2, h3⟩ := h.row y r hr
    refine ⟨h1, h2, h3.imp id ?_⟩
    rintro ⟨b, base, cur, t, e, hh, hw, hf, hs, hx⟩
    refine ⟨b, base, cur, t, e, (k.old _ (heap_lt hh)).trans hh, fun h0 => ⟨(hw h0).1, ?_⟩, fun h0 => .inl (hf h0), hs, fun i y hi => by
      obtain ⟨c, hc, hcc⟩ := hx i y hi
      exact ⟨c, hc.mono x.i x.w, hcc⟩⟩
    rintro (hb' | ⟨_, hb'⟩)
    · exact (hw h0).2 hb'
    · exact Nat.not_le_of_lt (heap_lt hh) hb'
end Go.Proofs.YtdfhopakojmjkaaDoor.Den
