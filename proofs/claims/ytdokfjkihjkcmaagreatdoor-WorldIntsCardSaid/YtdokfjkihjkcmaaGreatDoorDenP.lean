/- The library, part P: a run of the model, told by an evaluator, with its proof. -/
import Derived.Test.YtdokfjkihjkcmaaGreatDoorDenJ
import Derived.Laws.StructEq
import Derived.Laws.Tables
import Derived.Laws.BytesString
import Derived.MapKept
/- New memory and plain operations. -/
namespace Go.Proofs.YtdokfjkihjkcmaaGreatDoor.Den
open Go Go.RowKit
set_option linter.unusedVariables false
theorem splice_step {cs vs : List Value} {v : Value} {o : Nat} (h : o + (vs.length + 1) ≤ cs.length) : splice (cs.set o v) (o + 1) vs = splice cs o (v :: vs) := by
 apply List.ext_getElem?
 intro j
 rw [splice_get (by simp; omega), splice_get (by simp; omega)]
 by_cases hj : j = o
 ·subst hj
  rw [if_neg (by omega), if_pos (by simp)]
  simp only [Nat.sub_self, List.getElem?_cons_zero]
  rw [List.getElem?_set_self (by omega)]
 ·by_cases hj2 : o + 1 ≤ j ∧ j < o + 1 + vs.length
  ·rw [if_pos hj2, if_pos (by simp; omega)]
   obtain ⟨q, hq⟩ : ∃ q, j - o = q + 1 := ⟨j - o - 1, by omega⟩
   rw [hq, List.getElem?_cons_succ]
   congr 1
   omega
  ·rw [if_neg hj2, if_neg (by simp; omega)]
   rw [List.getElem?_set_ne (by omega)]
theorem fold_splice : ∀ (vs : List Value) (n : Nat) (cells : Array Value) (off : Nat), off + n + vs.length ≤ cells.size →
  (vs.zipIdx n).foldl (fun cs (p : Value × Nat) => cs.setIfInBounds (off + p.2) p.1) cells = (splice cells.toList (off + n) vs).toArray
 | [], n, cells, off, h => by simp [splice]
 | v :: vs, n, cells, off, h => by
  simp only [List.length_cons] at h
  rw [List.zipIdx_cons, List.foldl_cons, fold_splice vs (n + 1) (cells.setIfInBounds (off + n) v) off (by simp; omega)]
  rw [Array.toList_setIfInBounds, show off + (n + 1) = off + n + 1 by omega, splice_step (by simp; omega)]
theorem fill_cons {place : Nat → Option (Nat × Nat)} {cells : Array Value} {i : Nat} {v : Value} {vs : List Value} {rest : List (Nat × Value)} {off size : Nat} (hp : place i = some (off, size)) (hv : v.cells = vs.toArray) (hl : vs.length = size)
  (ho : off + size ≤ cells.size) : Instr.fill place cells ((i, v) :: rest) = Instr.fill place (splice cells.toList off vs).toArray rest := by
 have hf : (v.cells.zipIdx.foldl (fun cs (c, j) => cs.setIfInBounds (off + j) c) cells) = (splice cells.toList off vs).toArray := by
  have := fold_splice vs 0 cells off (by omega)
  rw [Nat.add_zero] at this
  rw [hv, ← this, ← Array.foldl_toList, Array.toList_zipIdx]
 simp only [Instr.fill, hp]
 rw [if_neg (by rw [hv]; simp; omega), hf]
theorem free_new {B : Nat} {s : S4} (h : MemOk B s) (o : Obj) : Free B (s.setW (s.W.alloc o)) s.W.heap.size :=
 ⟨h.bsz, fun hI => Nat.lt_irrefl _ (h.ilt _ hI), fun k c hc => Nat.ne_of_lt (h.varlt (k := k) (c := c) hc), fun k r b0 hr hw hp => Nat.lt_irrefl _ (h.rowlt (k := k) (r := r) hr hp), fun k i hi => Nat.lt_irrefl _ (h.dj.inlt (k := k) (i := i) hi).1⟩
theorem newVar_ok {B : Nat} {s : S4} (h : MemOk B s) {key : Nat} (hu : ¬ s.U key) (hk : key < s.H.nx) {c : V} {cs : Array Value} (hc : RelC s c cs.toList) (e : TypeId) :
  ∃ t : S4, t.H = s.H.setVar key c ∧ MemOk B t ∧ Ext B s t ∧ (∀ k, t.U k → s.U k ∨ k = key) ∧ t.W = s.W.alloc (.cells cs e) ∧ RelV t (.pvar key []) (.pointer (some ⟨s.W.heap.size, 0, none⟩)) := by
 have k2 := wkeep_alloc h (.cells cs e)
 have m2 := k2.memOk h
 have x2 := k2.ext h
 have hb : (s.setW (s.W.alloc (.cells cs e))).W.heap[s.W.heap.size]? = some (.cells cs e (0, 0)) := alloc_heap s.W _
 have m3 := memOk_addVar m2 (key := key) (b := s.W.heap.size) hu hk (free_new h _) hb (RelC.ext x2 hc)
 refine ⟨_, rfl, m3, x2.trans (ext_addVar hu), fun k hk => hk, rfl, .inr ⟨[_], relT_of ?_, rfl⟩⟩
 simp only [RelC]
 refine ⟨.inr rfl, _, rfl, rfl, fun c' hc' => ?_⟩
 rcases addVar_pv hc' with ⟨_, rfl⟩ | ⟨hne, _⟩
 ·exact ⟨relC_nm hc, 0, off_nil, by simp [S4.addVar]⟩
 ·exact absurd rfl hne
theorem newRow_ok {B : Nat} {s : S4} (h : MemOk B s) {key : Nat} (hu : ¬ s.U key) (hk : key < s.H.nx) {u : U} (hz : 0 < u.size) {xs : List u.T} {cells : Array Value} (hl : cells.size = xs.length * u.size)
  (h1 : ∀ (i : Nat) (x : u.T), xs[i]? = some x → RelD s.W s.I u x ((cells.toList.drop (i * u.size)).take u.size)) (e : TypeId) :
  ∃ t : S4, t.H = s.H.setRow key ⟨u, xs, true⟩ ∧ MemOk B t ∧ Ext B s t ∧ (∀ k, t.U k → s.U k ∨ k = key) ∧
   t.W = s.W.alloc (.cells cells e) ∧ RelV t (.row key) (.slice (some ⟨s.W.heap.size, 0, none⟩) xs.length xs.length) := by
 have k2 := wkeep_alloc h (.cells cells e)
 have m2 := k2.memOk h
 have x2 := k2.ext h
 have hb : (s.setW (s.W.alloc (.cells cells e))).W.heap[s.W.heap.size]? = some (.cells cells e (0, 0)) := alloc_heap s.W _
 have hrow : RowAt (s.setW (s.W.alloc (.cells cells e))) ⟨u, xs, true⟩ s.W.heap.size 0 := by
  refine ⟨cells, e, hb, by show 0 + xs.length * u.size ≤ cells.size; omega, fun i x hi => ?_⟩
  refine ⟨_, (h1 i x hi).monoC x2.i x2.cw, fun j v hj => ?_⟩
  have := relD_chunk_cells (h1 i x hi) hj
  rw [Nat.zero_add]
  simpa using this
 have m3 := memOk_addRow m2 (key := key) (pl := some (s.W.heap.size, 0)) (r := ⟨u, xs, true⟩) hu hk hz rfl (.inr ⟨_, _, rfl, free_new h _, hrow⟩)
 refine ⟨_, rfl, m3, x2.trans (ext_addRow hu), fun k hk => hk, rfl, .inr ⟨[_], relT_of ?_, rfl⟩⟩
 simp only [RelC]
 refine ⟨.inr rfl, _, rfl, rfl, fun r hr => ?_⟩
 rcases addRow_geo hr with ⟨_, rfl⟩ | ⟨hne, _⟩
 ·refine ⟨some ⟨s.W.heap.size, 0, none⟩, xs.length, rfl, Nat.le_refl _, .inr ⟨s.W.heap.size, 0, by simp [S4.addRow], by simp, ?_⟩⟩
  show 0 + (0 + xs.length) * u.size ≤ bsize _ _
  have hbs := bsize_at hb
  refine Nat.le_of_eq (Eq.trans ?_ hbs.symm)
  rw [Nat.zero_add, Nat.zero_add, hl]
 ·exact absurd rfl hne
def S4.addD (s : S4) (key b : Nat) (D : V) : S4 :=
 { s with H := s.H.setVar key D, ρ := { var := fun i => if i = key then b else s.ρ.var i, row := fun i => if i = key then some (b, 0) else s.ρ.row i, fam := fun q => if q = key + 1 then (fun _ => .slice none 0 0) else s.ρ.fam q }, U := fun k => s.U k ∨ k = key ∨ k = key + 1 }
theorem addD_var {s : S4} {key b : Nat} {D : V} {k : Nat} {c' : V} (h : (s.addD key b D).H.var k = some c') : (k = key ∧ c' = D) ∨ (k ≠ key ∧ s.H.var k = some c') := by
 unfold S4.addD HF.setVar at h
 by_cases e : k = key
 ·subst e; simp at h; exact .inl ⟨rfl, h.symm⟩
 ·simp [nbeq e] at h; exact .inr ⟨e, h⟩
theorem memOk_addD {B : Nat} {s : S4} (h : MemOk B s) {key b : Nat} {v r : U} {xs : List (List v.T × r.T)} (hu : ¬ s.U key) (hu1 : ¬ s.U (key + 1)) (hn : key + 1 < s.H.nx) (hf : Free B s b) (hz : 0 < v.size) {cs : Array Value} {t : TypeId}
  (hb : s.W.heap[b]? = some (.cells cs t (0, 0))) (hsz : xs.length * (dcd v r).size ≤ cs.size)
  (hx : ∀ (i : Nat) (x : List v.T × r.T), xs[i]? = some x → x.1 = [] ∧ cs[i * (dcd v r).size]? = some (.slice none 0 0) ∧ ∃ c, RelD s.W s.I r x.2 c ∧ ∀ (n : Nat) (w : Value), c[n]? = some w → cs[i * (dcd v r).size + 1 + n]? = some w) :
  MemOk B (s.addD key b (.drow v r xs (key + 1) none)) ∧ Ext B s (s.addD key b (.drow v r xs (key + 1) none)) := by
 have ρk : (s.addD key b (.drow v r xs (key + 1) none)).ρ.var key = b := by simp [S4.addD]
 have ρo : ∀ k, k ≠ key → (s.addD key b (.drow v r xs (key + 1) none)).ρ.var k = s.ρ.var k := fun k hk => by simp [S4.addD, hk]
 have σk : (s.addD key b (.drow v r xs (key + 1) none)).ρ.row key = some (b, 0) := by simp [S4.addD]
 have σo : ∀ k, k ≠ key → (s.addD key b (.drow v r xs (key + 1) none)).ρ.row k = s.ρ.row k := fun k hk => by simp [S4.addD, hk]
 have fo : ∀ q, q ≠ key + 1 → (s.addD key b (.drow v r xs (key + 1) none)).ρ.fam q = s.ρ.fam q := fun q hq => by simp [S4.addD, hq]
 have fk : ∀ i, (s.addD key b (.drow v r xs (key + 1) none)).ρ.fam (key + 1) i = .slice none 0 0 := fun i => by simp [S4.addD]
 have uk : ∀ k, s.U k → k ≠ key := fun k hk e => hu (e ▸ hk)
 have uk1 : ∀ k, s.U k → k ≠ key + 1 := fun k hk e => hu1 (e ▸ hk)
 have e : Ext B s (s.addD key b (.drow v r xs (key + 1) none)) := {
  i := fun _ h => h
  inew := fun _ h => .inl h
  w := fun _ _ => .eq rfl rfl
  below := Below.refl _ _
  u := fun _ h => .inl h
  nx := Nat.le_refl _
  var := fun k c' hk hc => by
   obtain ⟨hc, h1⟩ := pv_var hc
   rcases addD_var hc with ⟨rfl, rfl⟩ | ⟨hne, hc⟩
   ·exact absurd hk hu
   ·exact ⟨c', var_pv hc h1, rfl, ρo k hne⟩
  row := fun k g hk hg => by
   have hne := uk k hk
   have hv : (s.addD key b (.drow v r xs (key + 1) none)).H.var k = s.H.var k := by simp [S4.addD, HF.setVar, nbeq hne]
   exact ⟨by rw [← geo_eq (H := s.H) (H2 := (s.addD key b (.drow v r xs (key + 1) none)).H) rfl hv]; exact hg, fun _ _ _ => rfl⟩
  pl := fun k hk => σo k (uk k hk)
  fam := fun q hq => fo q (uk1 q hq) }
 refine ⟨?_, e⟩
 have hT : ∀ b', Tk (s.addD key b (.drow v r xs (key + 1) none)) b' → Tk s b' ∨ b' = b := by
  rintro b' (ht | ⟨l, d, hl, hb⟩ | ⟨l, d, base, hl, hw, hb⟩)
  ·exact .inl (.inl ht)
  ·rcases addD_var hl with ⟨rfl, rfl⟩ | ⟨hne, hl⟩
   ·rw [ρk] at hb; exact .inr hb.symm
   ·rw [ρo l hne] at hb; exact .inl (.inr (.inl ⟨l, d, hl, hb⟩))
  ·rw [σo l (uk l (h.row l d hl).1)] at hb
   exact .inl (.inr (.inr ⟨l, d, base, hl, hw, hb⟩))
 have back : ∀ l j b', InB (s.addD key b (.drow v r xs (key + 1) none)) l j b' → InB s l j b' := by
  rintro l j b' ⟨v', r', xs', q', ho', h1, h2, h3, o, len, cap, h4, h5⟩
  rcases addD_var h1 with ⟨rfl, hd'⟩ | ⟨hl, h1⟩
  ·injection hd' with d1 d2 d3 d4 d5
   subst d4
   rw [fk] at h4
   injection h4 with h4
   cases h4
  ·rw [fo q' (uk1 q' (h.dj.el l v' r' xs' q' ho' h1).2.1)] at h4
   exact ⟨v', r', xs', q', ho', h1, h2, h3, o, len, cap, h4, h5⟩
 refine ⟨h.ilt, h.bsz, ?_, ?_, ?_, ?_, ?_, ?_, fun l d hd h1 => ?_, ⟨?_, fun l j l' j' b' h1 h2 => h.dj.one l j l' j' b' (back l j b' h1) (back l' j' b' h2)⟩⟩
 ·rintro k (hk | rfl | rfl)
  ·exact h.un k hk
  ·show k < s.H.nx; omega
  ·exact hn
 ·intro k c' hc'
  rcases addD_var hc' with ⟨rfl, rfl⟩ | ⟨hne, hk⟩
  ·rw [ρk]
   exact ⟨.inr (.inl rfl), hf.B, hf.i, _, hb, cs, t, rfl⟩
  ·rw [ρo k hne]
   obtain ⟨h1, h2, h3, o, h4, h5⟩ := h.var k c' hk
   exact ⟨.inl h1, h2, h3, o, h4, RelO.ext e h5⟩
 ·intro k r' hr
  obtain ⟨h1, h2, h3⟩ := h.row k r' hr
  rw [σo k (uk k h1)]
  exact ⟨.inl h1, h2, h3⟩
 ·intro k l c1 c2 hkl h1 h2
  rcases addD_var h1 with ⟨rfl, rfl⟩ | ⟨hk, g1⟩ <;> rcases addD_var h2 with ⟨rfl, rfl⟩ | ⟨hl, g2⟩
  ·exact absurd rfl hkl
  ·rw [ρk, ρo l hl]; exact fun e => hf.var l c2 g2 e.symm
  ·rw [ρk, ρo k hk]; exact hf.var k c1 g1
  ·rw [ρo k hk, ρo l hl]; exact h.vv k l c1 c2 hkl g1 g2
 ·intro k l r1 r2 x y z hkl h1 h2 w1 w2 p1 p2
  have h1 : s.H.row k = some r1 := h1
  have h2 : s.H.row l = some r2 := h2
  rw [σo k (uk k (h.row k r1 h1).1)] at p1
  rw [σo l (uk l (h.row l r2 h2).1)] at p2
  exact h.rr k l r1 r2 x y z hkl h1 h2 w1 w2 p1 p2
 ·intro k l c1 r1 b' b0 h1 h2 hw h3
  have h2 : s.H.row l = some r1 := h2
  rw [σo l (uk l (h.row l r1 h2).1)] at h3
  rcases addD_var h1 with ⟨rfl, rfl⟩ | ⟨hk, h1⟩
  ·rw [ρk]; intro e; subst e; exact hf.row l r1 b0 h2 hw h3
  ·rw [ρo k hk]; exact h.vr k l c1 r1 b' b0 h1 h2 hw h3
 ·rcases addD_var hd with ⟨rfl, rfl⟩ | ⟨hne, hd⟩
  ·refine ⟨?_, ⟨0, by rw [σk, ρk]⟩, .inr ⟨_, _, _, _, _, rfl⟩⟩
   cases hh : s.H.row l with
   | none => exact hh
   | some r0 => exact absurd (h.row l r0 hh).1 hu
  ·rw [ρo l hne, σo l hne]; exact h.hk l d hd h1
 ·intro l v' r' xs' q' ho' h1
  rcases addD_var h1 with ⟨rfl, hd'⟩ | ⟨hl, h1z⟩
  ·injection hd' with d1 d2 d3 d4 d5
   subst d1 d2
   have d3 := eq_of_heq d3
   subst d3 d4 d5
   refine ⟨.inr (.inl rfl), .inr (.inr rfl), hz, 0, cs, t, by rw [σk, ρk], by rw [ρk]; exact hb, by rw [Nat.zero_add]; exact hsz, fun i x hi _ => ?_⟩
   obtain ⟨g1, g2, c, g3, g4⟩ := hx i x hi
   rw [fk, Nat.zero_add]
   exact ⟨g2, ⟨none, 0, by rw [g1]; rfl, by rw [g1]; exact Nat.le_refl _, .inl rfl⟩, c, g3, g4⟩
  ·obtain ⟨u1, u2, u3, base, cs', ty, f1, f2, f3, f4⟩ := h.dj.el l v' r' xs' q' ho' h1z
   rw [ρo l hl, σo l hl, fo q' (uk1 q' u2)]
   refine ⟨.inl u1, .inl u2, u3, base, cs', ty, f1, f2, f3, fun j x hj hh => ?_⟩
   obtain ⟨c1, c2, c, c3, c4⟩ := f4 j x hj hh
   have hj' := (List.getElem?_eq_some_iff.1 hj).1
   refine ⟨c1, c2.mono (fun h => h) (fun b' o len cap hb' h0 => ⟨rfl, fun ht => ?_⟩), c, c3, c4⟩
   rcases hT b' ht with ht | rfl
   ·exact ht
   ·exact absurd ⟨v', r', xs', q', ho', h1z, hj', hh, o, len, cap, hb', h0⟩ (hf.dj l j)
theorem newD_ok {B : Nat} {s : S4} (h : MemOk B s) {key : Nat} (hu : ¬ s.U key) (hu1 : ¬ s.U (key + 1)) (hk : key + 1 < s.H.nx) {v r : U} (hz : 0 < v.size) {n : Nat} {cells : Array Value} (hl : n * (dcd v r).size ≤ cells.size)
  (h1 : ∀ i, i < n → ∃ c, RelD s.W s.I r r.zero c ∧ cells[i * (dcd v r).size]? = some (.slice none 0 0) ∧ ∀ (m : Nat) (w : Value), c[m]? = some w → cells[i * (dcd v r).size + 1 + m]? = some w) (e : TypeId) :
  ∃ t : S4, t.H = s.H.setVar key (.drow v r (List.replicate n ([], r.zero)) (key + 1) none) ∧ MemOk B t ∧ Ext B s t ∧ (∀ k, t.U k → s.U k ∨ k = key ∨ k = key + 1) ∧
   t.W = s.W.alloc (.cells cells e) ∧ (n * (dcd v r).size = cells.size → RelV t (.row key) (.slice (some ⟨s.W.heap.size, 0, none⟩) n n)) := by
 have k2 := wkeep_alloc h (.cells cells e)
 have m2 := k2.memOk h
 have x2 := k2.ext h
 have hb : (s.setW (s.W.alloc (.cells cells e))).W.heap[s.W.heap.size]? = some (.cells cells e (0, 0)) := alloc_heap s.W _
 obtain ⟨m3, x3⟩ := memOk_addD m2 (key := key) (b := s.W.heap.size) (v := v) (r := r) (xs := List.replicate n ([], r.zero)) hu hu1 hk (free_new h _) hz hb (by simpa using hl) (fun i x hi => by
  have hi' : i < n := by
   have := (List.getElem?_eq_some_iff.1 hi).1
   simpa using this
  have hx : x = ([], r.zero) := by
   obtain ⟨_, hx⟩ := List.getElem?_eq_some_iff.1 hi
   rw [← hx]; simp
  subst hx
  obtain ⟨c, c1, c2, c3⟩ := h1 i hi'
  exact ⟨rfl, c2, c, c1.monoC x2.i x2.cw, c3⟩)
 refine ⟨_, rfl, m3, x2.trans x3, fun k hk => hk, rfl, fun hl => .inr ⟨[_], relT_of ?_, rfl⟩⟩
 simp only [RelC]
 refine ⟨.inr (.inl rfl), _, rfl, rfl, fun g hg => ?_⟩
 have hg0 := (drow_at m3 (k := key) (v := v) (r := r) (xs := List.replicate n ([], r.zero)) (q := key + 1) (ho := none) (by simp [S4.addD, HF.setVar])).2.1
 rw [hg0] at hg
 injection hg with hg
 subst hg
 refine ⟨some ⟨s.W.heap.size, 0, none⟩, n, by simp, by simp, .inr ⟨s.W.heap.size, 0, by simp [S4.addD], by simp, ?_⟩⟩
 show 0 + (0 + n) * (dcd v r).size ≤ bsize _ _
 have hbs := bsize_at hb
 rw [Nat.zero_add, Nat.zero_add, hl]
 exact Nat.le_of_eq hbs.symm
theorem zeroV_rel {s : S4} : ∀ u : U, RelC s (zeroV u) (zcells u)
 | .int k => by simp [zeroV, RelC, RelD, zcells, U.zero]
 | .bool => by simp [zeroV, RelC, RelD, zcells, U.zero]
 | .fn => by simp [zeroV, RelC, RelD, zcells, U.zero, fnVal]
 | .sl u => by simp [zeroV, RelC, zcells]
 | .arr n u => by
  simp only [zeroV, RelC]
  exact RelD.zero s.W s.I (.arr n u)
 | .nil => by simp [zeroV, RelC, zcells]
 | .cons a b => by
  simp only [zeroV, RelC]
  exact ⟨_, _, rfl, zeroV_rel a, zeroV_rel b⟩
theorem zeroV_sk : ∀ u : U, (zeroV u).sk = u.sk
 | .int _ => rfl
 | .bool => rfl
 | .fn => rfl
 | .sl _ => rfl
 | .arr _ _ => rfl
 | .nil => rfl
 | .cons a b => by simp [zeroV, V.sk, U.sk, zeroV_sk a, zeroV_sk b]
theorem made_get (z : Array Value) (n q : Nat) (hq : q < n) (hz : 0 < z.size) : (madeCells z n)[q]? = z[q % z.size]? := by
 simp only [madeCells, Array.getElem?_map, Array.getElem?_range, hq, if_true, Option.map_some]
 rw [Array.getElem!_eq_getD, Array.getD_eq_getD_getElem?, Array.getElem?_eq_getElem (Nat.mod_lt _ hz)]
 rfl
theorem made_chunk (z : Array Value) (n i : Nat) (hi : i < n) (hz : 0 < z.size) : ((madeCells z (n * z.size)).toList.drop (i * z.size)).take z.size = z.toList := by
 apply List.ext_getElem?
 intro j
 rw [List.getElem?_take]
 split
 ·rename_i hj
  have h1 : (i + 1) * z.size ≤ n * z.size := Nat.mul_le_mul_right _ hi
  rw [Nat.succ_mul] at h1
  rw [List.getElem?_drop, Array.getElem?_toList, made_get _ _ _ (by omega) hz, Array.getElem?_toList]
  congr 1
  rw [Nat.mul_comm, Nat.mul_add_mod, Nat.mod_eq_of_lt hj]
 ·rename_i hj
  rw [List.getElem?_eq_none]
  simp
  omega
theorem deepen_not {H : HF} {u : U} {v : V} {x : u.T} (h : deepen H u v = some x) : v ≠ .undef ∧ ∀ w, v ≠ .tup w := by
 constructor
 ·rintro rfl
  cases u <;> simp [deepen] at h
 ·rintro w rfl
  cases u <;> simp [deepen] at h
theorem deepen_sk {H : HF} : ∀ {u : U} {v : V} {x : u.T}, deepen H u v = some x → v.sk = u.sk
 | u, .d u' y, x, h => by
  simp only [deepen] at h
  obtain ⟨e, _⟩ := castT_some h
  subst e
  rfl
 | .cons a b, .cons va vb, x, h => by
  simp only [deepen] at h
  split at h
  ·rename_i y hy
   split at h
   ·rename_i z hz
    simp only [V.sk, U.sk]
    rw [deepen_sk hy, deepen_sk hz]
   ·cases h
  ·cases h
 | .nil, .nil, _, _ => rfl
 | .sl u, .nilsl, _, _ => rfl
 | .sl u, .dfull _ _, _, _ => rfl
 | .sl u, .row _, _, _ => rfl
 | .sl u, .rsub _ _ _, _, _ => rfl
 | .int _, .cons _ _, _, h => by simp [deepen] at h
 | .int _, .nil, _, h => by simp [deepen] at h
 | .int _, .nilsl, _, h => by simp [deepen] at h
 | .int _, .dfull _ _, _, h => by simp [deepen] at h
 | .int _, .row _, _, h => by simp [deepen] at h
 | .int _, .rsub _ _ _, _, h => by simp [deepen] at h
 | .bool, .cons _ _, _, h => by simp [deepen] at h
 | .fn, .cons _ _, _, h => by simp [deepen] at h
 | .bool, .nil, _, h => by simp [deepen] at h
 | .fn, .nil, _, h => by simp [deepen] at h
 | .bool, .nilsl, _, h => by simp [deepen] at h
 | .fn, .nilsl, _, h => by simp [deepen] at h
 | .bool, .dfull _ _, _, h => by simp [deepen] at h
 | .fn, .dfull _ _, _, h => by simp [deepen] at h
 | .bool, .row _, _, h => by simp [deepen] at h
 | .fn, .row _, _, h => by simp [deepen] at h
 | .bool, .rsub _ _ _, _, h => by simp [deepen] at h
 | .fn, .rsub _ _ _, _, h => by simp [deepen] at h
 | .sl _, .cons _ _, _, h => by simp [deepen] at h
 | .sl _, .nil, _, h => by simp [deepen] at h
 | .arr _ _, .cons _ _, _, h => by simp [deepen] at h
 | .arr _ _, .nil, _, h => by simp [deepen] at h
 | .arr _ _, .nilsl, _, h => by simp [deepen] at h
 | .arr _ _, .dfull _ _, _, h => by simp [deepen] at h
 | .arr _ _, .row _, _, h => by simp [deepen] at h
 | .arr _ _, .rsub _ _ _, _, h => by simp [deepen] at h
 | .nil, .cons _ _, _, h => by simp [deepen] at h
 | .nil, .nilsl, _, h => by simp [deepen] at h
 | .nil, .dfull _ _, _, h => by simp [deepen] at h
 | .nil, .row _, _, h => by simp [deepen] at h
 | .nil, .rsub _ _ _, _, h => by simp [deepen] at h
 | .cons _ _, .nil, _, h => by simp [deepen] at h
 | .cons _ _, .nilsl, _, h => by simp [deepen] at h
 | .cons _ _, .dfull _ _, _, h => by simp [deepen] at h
 | .cons _ _, .row _, _, h => by simp [deepen] at h
 | .cons _ _, .rsub _ _ _, _, h => by simp [deepen] at h
 | u, .pvar _ _, _, h => by cases u <;> simp [deepen] at h
 | u, .prow _ _ _, _, h => by cases u <;> simp [deepen] at h
 | u, .pdeep _ _, _, h => by cases u <;> simp [deepen] at h
 | u, .fn _ _ _, _, h => by cases u <;> first | rfl | (simp [deepen] at h; done)
 | u, .tup _, _, h => by cases u <;> simp [deepen] at h
 | u, .mp _, _, h => by cases u <;> simp [deepen] at h
 | u, .mapd _ _, _, h => by cases u <;> simp [deepen] at h
 | u, .hrow _ _ _ _ _, _, h => by cases u <;> simp [deepen] at h
 | u, .str _, _, h => by cases u <;> simp [deepen] at h
 | u, .drow _ _ _ _ _, _, h => by cases u <;> simp [deepen] at h
 | u, .dsl _ _ _ _, _, h => by cases u <;> simp [deepen] at h
 | u, .dpi _ _ _ _ _, _, h => by cases u <;> simp [deepen] at h
 | u, .undef, _, h => by cases u <;> simp [deepen] at h
theorem deepen_cells {B : Nat} {s : S4} (h : MemOk B s) {u : U} {v : V} {x : u.T} {y : Value} (hd : deepen s.H u v = some x) (hy : RelV s v y) :
  ∃ cs, RelD s.W (Iv s v) u x cs ∧ IsVal u.agg cs y ∧ y.cells = cs.toArray := by
 obtain ⟨cs, h1, h2⟩ := hy.get (deepen_not hd).1 (deepen_not hd).2 (deepen_noY hd)
 have e : v.agg = u.agg := by unfold V.agg; rw [deepen_sk hd, U.sk_agg]
 have hr := deepen_rel h hd h1
 exact ⟨cs, hr, by rw [← e]; exact h2, isVal_cells h2 h1.one⟩
def Chunks (W : World) (J : Nat → Prop) (u : U) (xs : List u.T) (cells : Array Value) : Prop :=
 cells.size = xs.length * u.size ∧ ∀ (i : Nat) (x : u.T), xs[i]? = some x → RelD W J u x ((cells.toList.drop (i * u.size)).take u.size)
theorem chunk_other {cs vs : List Value} {z i q : Nat} (hi : i * z + z ≤ cs.length) (hl : vs.length = z) (hne : q ≠ i) : ((splice cs (i * z) vs).drop (q * z)).take z = (cs.drop (q * z)).take z := by
 apply List.ext_getElem?
 intro j
 rw [List.getElem?_take, List.getElem?_take]
 split
 ·rename_i hj
  rw [List.getElem?_drop, List.getElem?_drop, splice_get (by omega), if_neg]
  rintro ⟨g1, g2⟩
  rcases Nat.lt_or_gt_of_ne hne with hq | hq
  ·have := Nat.mul_le_mul_right z (show q + 1 ≤ i from hq)
   rw [Nat.succ_mul] at this
   omega
  ·have := Nat.mul_le_mul_right z (show i + 1 ≤ q from hq)
   rw [Nat.succ_mul] at this
   omega
 ·rfl
theorem chunk_same {cs vs : List Value} {z i : Nat} (hi : i * z + z ≤ cs.length) (hl : vs.length = z) : ((splice cs (i * z) vs).drop (i * z)).take z = vs := by
 apply List.ext_getElem?
 intro j
 rw [List.getElem?_take]
 split
 ·rw [List.getElem?_drop, splice_get (by omega), if_pos (by omega)]
  congr 1
  omega
 ·rw [List.getElem?_eq_none (by omega)]
theorem fillV_ok {B : Nat} {s : S4} (h : MemOk B s) {T : TF} {a : Act} (hT : TRel s T a.tmps) {u : U} {J : Nat → Prop} (hJ : ∀ b, s.I b → J b) : ∀ (ps : List (Nat × Operand)) (xs ys : List u.T) (cells : Array Value), fillV s.H T u ps xs = some ys →
  (∀ k r b base, k ∈ rowsOfs T ps → s.H.row k = some r → s.ρ.row k = some (b, base) → J b) → Chunks s.W J u xs cells →
  ∃ cells', Instr.fill (fun i => some (i * u.size, u.size)) cells (ps.map fun (i, x) => (i, a.eval x)) = some cells' ∧ Chunks s.W J u ys cells' ∧ ys.length = xs.length
 | [], xs, ys, cells, hf, hr, hc => by
  simp only [fillV] at hf
  injection hf with hf
  subst hf
  exact ⟨cells, rfl, hc, rfl⟩
 | (i, x) :: ps, xs, ys, cells, hf, hr, hc => by
  simp only [fillV] at hf
  split at hf
  ·rename_i y hy
   split at hf
   ·rename_i hi
    have hi : i < xs.length := of_decide_eq_true (by simpa [Nat.blt_eq] using hi)
    obtain ⟨cs, g1, g2, g3⟩ := deepen_cells h hy (evO_rel hT x)
    have hm : (i + 1) * u.size ≤ xs.length * u.size := Nat.mul_le_mul_right _ hi
    rw [Nat.succ_mul] at hm
    have hin : i * u.size + u.size ≤ cells.size := by rw [hc.1]; exact hm
    have g1' : RelD s.W J u y cs := g1.mono (fun b hb => by
     rcases hb with hb | ⟨k, r, base, hk, hkr, hkp⟩
     ·exact hJ b hb
     ·exact hr k r b base (by simp [rowsOfs, hk]) hkr hkp) (fun _ _ => rfl)
    have hfl := fill_cons (place := fun i => some (i * u.size, u.size)) (i := i) (rest := ps.map fun (i, x) => (i, a.eval x)) rfl g3 g1.len hin
    obtain ⟨cells', e1, e2, e3⟩ := fillV_ok h hT hJ ps (xs.set i y) ys (splice cells.toList (i * u.size) cs).toArray hf (fun k r b base hk => hr k r b base (by simp [rowsOfs, hk])) (by
     refine ⟨by simp [splice_len (cs := cells.toList) (vs := cs) (o := i * u.size) (by rw [g1.len]; simpa using hin), hc.1], fun q z hq => ?_⟩
     by_cases hqi : q = i
     ·subst hqi
      rw [List.getElem?_set_self hi] at hq
      injection hq with hq
      subst hq
      show RelD s.W J u _ (((splice cells.toList (q * u.size) cs).drop (q * u.size)).take u.size)
      rw [chunk_same (by simpa using hin) g1.len]
      exact g1'
     ·rw [List.getElem?_set_ne (by omega)] at hq
      show RelD s.W J u _ (((splice cells.toList (i * u.size) cs).drop (q * u.size)).take u.size)
      rw [chunk_other (by simpa using hin) g1.len hqi]
      exact hc.2 q z hq)
    exact ⟨cells', by rw [List.map_cons]; exact hfl.trans e1, e2, by rw [e3]; simp⟩
   ·cases hf
  ·cases hf
theorem get_fld_off : ∀ {c : V} {i : Nat} {v : V}, c.get [.fld i] = some v → ∃ o, c.sk.off [.fld i] = some o
 | .cons a b, 0, v, h => ⟨0, by simp [V.sk, U.off, off_nil]⟩
 | .cons a b, i + 1, v, h => by
  simp only [V.get] at h
  obtain ⟨o, ho⟩ := get_fld_off h
  exact ⟨a.sk.size + o, by simp [V.sk, U.off, ho]⟩
 | .d u x, i, v, h => by
  simp only [V.get] at h
  split at h
  ·rename_i w y hd
   have : ∀ {u : U} {x : u.T} {i : Nat} {w : U} {y : w.T}, dget u x [.fld i] = some ⟨w, y⟩ → ∃ o, u.off [.fld i] = some o := by
    intro u
    induction u with
    | cons a b iha ihb =>
     intro x i w y h
     cases i with
     | zero => exact ⟨0, by simp [U.off, off_nil]⟩
     | succ i =>
      simp only [dget] at h
      obtain ⟨o, ho⟩ := ihb h
      exact ⟨a.size + o, by simp [U.off, ho]⟩
    | _ => intro x i w y h; simp [dget] at h
   obtain ⟨o, ho⟩ := this hd
   exact ⟨o, by simp only [V.sk]; rw [sk_off]; exact ho⟩
  ·cases h
 | .nil, i, v, h => by simp [V.get] at h
 | .nilsl, i, v, h => by simp [V.get] at h
 | .dfull _ _, i, v, h => by simp [V.get] at h
 | .row _, i, v, h => by simp [V.get] at h
 | .rsub _ _ _, i, v, h => by simp [V.get] at h
 | .pvar _ _, i, v, h => by simp [V.get] at h
 | .prow _ _ _, i, v, h => by simp [V.get] at h
 | .pdeep _ _, i, v, h => by simp [V.get] at h
 | .fn _ _ _, i, v, h => by simp [V.get] at h
 | .tup _, i, v, h => by simp [V.get] at h
 | .mp _, i, v, h => by simp [V.get] at h
 | .mapd _ _, i, v, h => by simp [V.get] at h
 | .hrow _ _ _ _ _, i, v, h => by simp [V.get] at h
 | .str _, i, v, h => by simp [V.get] at h
 | .drow _ _ _ _ _, i, v, h => by simp [V.get] at h
 | .dsl _ _ _ _, i, v, h => by simp [V.get] at h
 | .dpi _ _ _ _ _, i, v, h => by simp [V.get] at h
 | .undef, i, v, h => by simp [V.get] at h
theorem bzV_rel {s : S4} : ∀ l : List BF, RelC s (bzV l) (bzcells l)
 | [] => by simp [bzV, bzcells, RelC]
 | .u u :: l => by
  simp only [bzV, RelC]
  exact ⟨zcells u, bzcells l, rfl, zeroV_rel u, bzV_rel l⟩
 | .ptr :: l => by
  simp only [bzV, RelC]
  exact ⟨[.pointer none], bzcells l, rfl, ⟨_, rfl, rfl⟩, bzV_rel l⟩
 | .func :: l => by
  simp only [bzV, RelC]
  exact ⟨[.nilFunc], bzcells l, rfl, ⟨_, rfl, rfl⟩, bzV_rel l⟩
 | .ifc :: l => by
  simp only [bzV, RelC]
  exact ⟨[.nilIface], bzcells l, rfl, ⟨_, rfl, rfl⟩, bzV_rel l⟩
theorem bzV_sk : ∀ l : List BF, (bzV l).sk = (bzU l).sk
 | [] => rfl
 | .u u :: l => by simp only [bzV, bzU, V.sk, U.sk, BF.code, zeroV_sk, bzV_sk l]
 | .ptr :: l => by simp only [bzV, bzU, V.sk, U.sk, BF.code, bzV_sk l]
 | .func :: l => by simp only [bzV, bzU, V.sk, U.sk, BF.code, bzV_sk l]
 | .ifc :: l => by simp only [bzV, bzU, V.sk, U.sk, BF.code, bzV_sk l]
theorem allocV_rel {s : S4} (u : U) : RelC s (allocV u) (zcells u) := by
 unfold allocV
 split
 ·exact fnsV_rel _
 ·exact zeroV_rel _
theorem buildFs_ok {s : S4} {T : TF} {a : Act} (hT : TRel s T a.tmps) {p q : U} {place : Nat → Option (Nat × Nat)} (hpl : ∀ f o, (U.cons p q).off [.fld f] = some o → ∃ u, dcode (.cons p q) [.fld f] = some u ∧ place f = some (o, u.size)) :
  ∀ (ps : List (Nat × Operand)) (v w : V) (cells : Array Value), buildFs T ps v = some w → v.sk = (U.cons p q).sk → RelC s v cells.toList →
  ∃ cells', Instr.fill place cells (ps.map fun (i, x) => (i, a.eval x)) = some cells' ∧ w.sk = (U.cons p q).sk ∧ RelC s w cells'.toList
 | [], v, w, cells, hb, hs, hc => by
  simp only [buildFs] at hb
  injection hb with hb
  subst hb
  exact ⟨cells, rfl, hs, hc⟩
 | (i, x) :: ps, v, w, cells, hb, hs, hc => by
  simp only [buildFs] at hb
  split at hb
  ·rename_i old hold
   split at hb
   ·rename_i hq
    split at hb
    ·rename_i v' hset
     simp only [Bool.and_eq_true] at hq
     have hsk := of_decide_eq_true hq.1
     obtain ⟨o, ho⟩ := get_fld_off hold
     obtain ⟨g1, g2⟩ := get_rel hold hc ho
     obtain ⟨vs, hv, hval⟩ := (evO_rel hT x).get (cell_not hq.2).1 (cell_not hq.2).2 (cell_noY hq.2)
     rw [hsk] at g1
     obtain ⟨s1, s2⟩ := set_rel hset hc hv ho g1
     have ho' : (U.cons p q).off [.fld i] = some o := by rw [hs, sk_off] at ho; exact ho
     obtain ⟨u, hu1, hu2⟩ := hpl i o ho'
     have hsz : vs.length = u.size := by
      rw [hv.len]
      rw [hs, sk_dcode, hu1] at g1
      simp only [Option.map_some] at g1
      injection g1 with g1
      unfold V.size
      rw [← g1, U.sk_size]
     have hin : o + u.size ≤ cells.size := by
      have := dcode_off hu1 ho'
      have hl := hc.len
      unfold V.size at hl
      rw [hs, U.sk_size] at hl
      simp at hl
      omega
     have hfl := fill_cons (place := place) (i := i) (rest := ps.map fun (i, x) => (i, a.eval x)) hu2 (isVal_cells hval hv.one) hsz hin
     obtain ⟨cells', e1, e2, e3⟩ := buildFs_ok hT hpl ps v' w (splice cells.toList o vs).toArray hb (s1.trans hs) (by simpa using s2)
     exact ⟨cells', by rw [List.map_cons]; exact hfl.trans e1, e2, e3⟩
    ·cases hb
   ·cases hb
  ·cases hb
end Go.Proofs.YtdokfjkihjkcmaaGreatDoor.Den

/- Each operation that isn't a call: what it comes to. -/
namespace Go.Proofs.YtdokfjkihjkcmaaGreatDoor.Den
open Go Go.RowKit
set_option linter.unusedVariables false
theorem run_cut {P : Program} {t e : TypeId} {i : TypeInfo} (ht : P.underlying t = some (.slice e)) (hi : P.info? e = some i) (W : World) (A : Option Addr) (n c : Nat) (lo hi' mx : Option Value) (l h m : Nat)
  (hlo : (lo = none ∧ l = 0) ∨ ∃ k, lo = some (.int k l)) (hhi : (hi' = none ∧ h = n) ∨ ∃ k, hi' = some (.int k h)) (hmx : (mx = none ∧ m = c) ∨ ((∃ k, mx = some (.int k m)) ∧ ∃ k, hi' = some (.int k h)))
  (h1 : l ≤ h) (h2 : h ≤ m) (h3 : m ≤ c) : (Instr.sliceAt t (.slice A n c) lo hi' mx).run P W = .ok (sliced A l h m i.size) W := by
 have hs : (sizeOf e).run P W = .ok i.size W := by simp [sizeOf, typeInfo, hi]
 have hb : (Instr.sliceBounds true n c lo hi' mx).run P W = .ok (l, h, m) W := by
  rcases hmx with ⟨rfl, rfl⟩ | ⟨⟨km, rfl⟩, kh, rfl⟩
  ·rcases hhi with ⟨rfl, rfl⟩ | ⟨kh, rfl⟩ <;> rcases hlo with ⟨rfl, rfl⟩ | ⟨kl, rfl⟩ <;> simp [Instr.sliceBounds, run_sliceBound, h1, h2]
  ·rcases hlo with ⟨rfl, rfl⟩ | ⟨kl, rfl⟩ <;> simp [Instr.sliceBounds, run_sliceBound, h1, h2, h3]
 simp [Instr.sliceAt, Instr.slice, run_underlying ht, hb, hs, sliced]
theorem cut_sl {W : World} {I : Nat → Prop} {u : U} {xs : List u.T} {A : Option Addr} {c l h m : Nat} (hx : SlD W I (RelD W I u) u.size xs (.slice A xs.length c)) (h1 : l ≤ h) (h2 : h ≤ m) (h3 : h ≤ xs.length) :
  SlD W I (RelD W I u) u.size ((xs.drop l).take (h - l)) (sliced A l h m u.size) := by
 obtain ⟨A', cap, e, _, hel⟩ := hx
 injection e with e1 _ e3
 subst e1 e3
 have hl : ((xs.drop l).take (h - l)).length = h - l := by simp; omega
 refine ⟨_, m - l, by rw [hl]; rfl, by rw [hl]; omega, fun i x hi => ?_⟩
 have hil : i < h - l := by
  have := (List.getElem?_eq_some_iff.1 hi).1
  omega
 rw [List.getElem?_take, if_pos hil, List.getElem?_drop] at hi
 obtain ⟨ad, cs, rfl, hI, hr, hlen, hc⟩ := hel _ x hi
 rw [if_neg (by omega)]
 refine ⟨ad.add (l * u.size), cs, rfl, by rw [add_block]; exact hI, hr, hlen, fun j v hj => ?_⟩
 have := hc j v hj
 have e : (ad.add (l * u.size)).add (i * u.size + j) = ad.add ((l + i) * u.size + j) := by
  rw [Nat.add_mul]
  unfold Addr.add
  by_cases h1 : l * u.size = 0 <;> by_cases h2 : i * u.size + j = 0 <;> simp [h1, h2, Nat.add_assoc] <;> omega
 rw [e]
 exact this
theorem cut_row {W : World} {pl : Option (Nat × Nat)} {z o n l h : Nat} {A : Option Addr} {m c : Nat} (hv : RowV W pl z o n (.slice A m c)) (h1 : l ≤ h) (h2 : h ≤ n) :
  RowV W pl z (o + l) (h - l) (sliced A l h c z) := by
 obtain ⟨A', cap, e, hn, hc⟩ := hv
 injection e with e1 e2 e3
 subst e1 e2 e3
 refine ⟨_, c - l, rfl, by omega, ?_⟩
 rcases hc with hc | ⟨b, base, hp, rfl, hs⟩
 ·exact .inl (by omega)
 ·by_cases hcl : c = l
  ·exact .inl (by omega)
  ·refine .inr ⟨b, base, hp, ?_, ?_⟩
   ·rw [if_neg hcl]
    simp only [Option.map_some, addr_add]
    rw [Nat.add_mul, Nat.add_assoc]
   ·rw [show o + l + (c - l) = o + c by omega]
    exact hs
theorem fits_dsl {H : HF} {z : Nat} {u : U} {xs : List u.T} (h : fitsZ H z (.d (.sl u) xs) = true) : u.size = z := nat_beq h
theorem fits_dfull {H : HF} {z : Nat} {u : U} {xs : List u.T} (h : fitsZ H z (.dfull u xs) = true) : u.size = z := nat_beq h
theorem fits_row {H : HF} {z k : Nat} {r : Row} (hr : H.row k = some r) (h : fitsZ H z (.row k) = true) : r.u.size = z := by
 simp only [fitsZ, hr] at h
 exact nat_beq h
theorem fits_rsub {H : HF} {z k o n : Nat} {r : Row} (hr : H.row k = some r) (h : fitsZ H z (.rsub k o n) = true) : r.u.size = z := by
 simp only [fitsZ, hr] at h
 exact nat_beq h
theorem cutV_ok {P : Program} {t e : TypeId} {u0 : U} {bt : Nat} (ht : P.underlying t = some (.slice e)) (he : ElemFact P e u0 bt) {s : S4} {x : V} {X : Value} (hx : RelV s x X) {full : Bool} {l h' : Int} {v' : V} {H' : HF} {n : Int} (hn : lenV s.H x = some n)
  (hz : fitsZ s.H u0.size x = true)
  (hto : (cutV s.H full x l h').to v' H') (lo hi mx : Option Value) (hlo : (lo = none ∧ l = 0) ∨ ∃ k, lo = some (.int k l)) (hhi : (hi = none ∧ h' = n) ∨ ∃ k, hi = some (.int k h')) (hmx : (full = false ∧ mx = none) ∨ (full = true ∧ (∃ k, mx = some (.int k h')) ∧ ∃ k, hi = some (.int k h'))) :
  H' = s.H ∧ ∃ y, (Instr.sliceAt t X lo hi mx).run P s.W = .ok y s.W ∧ RelV s v' y := by
 unfold cutV at hto
 rw [hn] at hto
 simp only [Res.to] at hto
 rcases hto with ⟨c1, hto⟩ | ⟨_, hto⟩
 case inr => cases hto
 rcases hto with ⟨c2, hto⟩ | ⟨_, hto⟩
 case inr => cases hto
 rcases hto with ⟨c3, hto⟩ | ⟨_, hto⟩
 case inr => cases hto
 have c1 := of_decide_eq_true c1
 have c2 := of_decide_eq_true c2
 have c3 := of_decide_eq_true c3
 obtain ⟨A, m, c, rfl, hnm, hmc⟩ := lenV_ok hx hn
 obtain ⟨i, z, hi', hsz, _⟩ := he.info
 obtain ⟨L, rfl⟩ : ∃ L : Nat, l = L := ⟨l.toNat, by omega⟩
 obtain ⟨Hh, rfl⟩ : ∃ q : Nat, h' = q := ⟨h'.toNat, by omega⟩
 subst hnm
 have b1 : L ≤ Hh := by omega
 have b2 : Hh ≤ m := by omega
 obtain ⟨M, hMf, hMt, hHM, hMc, hrun⟩ : ∃ M : Nat, (full = false → M = c) ∧ (full = true → M = Hh) ∧ Hh ≤ M ∧ M ≤ c ∧ (Instr.sliceAt t (.slice A m c) lo hi mx).run P s.W = .ok (sliced A L Hh M i.size) s.W := by
  have hlo' : (lo = none ∧ L = 0) ∨ ∃ k, lo = some (.int k L) := hlo.imp (fun q => ⟨q.1, by omega⟩) id
  rcases hmx with ⟨hf, rfl⟩ | ⟨hf, ⟨km, rfl⟩, kh, rfl⟩
  ·refine ⟨c, fun _ => rfl, (fun h0 => by rw [hf] at h0; cases h0), by omega, Nat.le_refl _, ?_⟩
   exact run_cut ht hi' s.W A m c lo hi none L Hh c hlo' (hhi.imp (fun q => ⟨q.1, by omega⟩) id) (.inl ⟨rfl, rfl⟩) b1 (by omega) (Nat.le_refl _)
  ·refine ⟨Hh, (fun h0 => by rw [hf] at h0; cases h0), fun _ => rfl, Nat.le_refl _, by omega, ?_⟩
   exact run_cut ht hi' s.W A m c lo (some (.int kh Hh)) (some (.int km Hh)) L Hh Hh hlo' (.inr ⟨kh, rfl⟩) (.inr ⟨⟨km, rfl⟩, kh, rfl⟩) b1 (Nat.le_refl _) (by omega)
 rw [hsz] at hrun
 simp only [Int.toNat_natCast] at hto
 have fin : ∀ {u : U} {xs : List u.T}, u.size = u0.size → SlD s.W s.I (RelD s.W s.I u) u.size xs (.slice A m c) →
   SlD s.W s.I (RelD s.W s.I u) u.size ((xs.drop L).take (Hh - L)) (sliced A L Hh M u0.size) ∧ (full = true → ∃ A', sliced A L Hh M u0.size = .slice A' ((xs.drop L).take (Hh - L)).length ((xs.drop L).take (Hh - L)).length) := by
  intro u xs hu hsl
  have hxs : xs.length = m := by
   obtain ⟨A', c', e, _⟩ := hsl
   injection e with _ e _
   exact e.symm
  have hcut := cut_sl (l := L) (h := Hh) (m := M) (by rw [hxs]; exact hsl) b1 hHM (by omega)
  rw [hu] at hcut ⊢
  refine ⟨hcut, fun hf => ?_⟩
  have := hMt hf
  subst this
  have hl : ((xs.drop L).take (M - L)).length = M - L := by simp; omega
  exact ⟨_, by rw [hl]; rfl⟩
 have fin2 : ∀ {u : U} {xs : List u.T}, u.size = u0.size → SlD s.W s.I (RelD s.W s.I u) u.size xs (.slice A m c) →
   (match full with
    | true => Res.ok (.dfull u ((xs.drop L).take (Hh - L))) s.H
    | false => Res.ok (.d (.sl u) ((xs.drop L).take (Hh - L))) s.H).to v' H' → H' = s.H ∧ RelV s v' (sliced A L Hh M u0.size) := by
  intro u xs hu hsl hto
  obtain ⟨f1, f2⟩ := fin hu hsl
  cases full with
  | true =>
   obtain ⟨rfl, rfl⟩ := hto
   obtain ⟨A', e⟩ := f2 rfl
   refine ⟨rfl, .inr ⟨[sliced A L Hh M u0.size], relT_of ?_, rfl⟩⟩
   simp only [RelC, RelD]
   exact ⟨⟨_, rfl, f1⟩, A', by rw [e]⟩
  | false =>
   obtain ⟨rfl, rfl⟩ := hto
   refine ⟨rfl, .inr ⟨[sliced A L Hh M u0.size], relT_of ?_, rfl⟩⟩
   simp only [RelC, RelD]
   exact ⟨_, rfl, f1⟩
 split at hto
 ·rename_i u xs
  obtain ⟨e, hv⟩ := fin2 (fits_dsl hz) (relV_sl hx) hto
  exact ⟨e, _, hrun, hv⟩
 ·rename_i u xs
  obtain ⟨e, hv⟩ := fin2 (fits_dfull hz) (relV_dfull hx).1 hto
  exact ⟨e, _, hrun, hv⟩
 ·obtain ⟨rfl, rfl⟩ := hto
  obtain ⟨cs, h1, h2⟩ := hx.get (by intro h; cases h) (by intro w h; cases h)
  simp only [RelC] at h1
  subst h1
  have := isVal_one h2 rfl
  injection this with e1 e2 e3
  subst e1 e2 e3
  obtain rfl : Hh = 0 := by omega
  obtain rfl : L = 0 := by omega
  obtain rfl : M = 0 := by omega
  exact ⟨rfl, _, hrun, .inr ⟨[_], rfl, rfl⟩⟩
 ·rename_i k
  cases full with
  | true => cases hto
  | false =>
   obtain ⟨rfl, rfl⟩ := hto
   obtain ⟨g1, g2, g3⟩ := relV_row hx
   obtain rfl := hMf rfl
   refine ⟨rfl, _, hrun, .inr ⟨[_], relT_of ?_, rfl⟩⟩
   simp only [RelC]
   refine ⟨g1, _, rfl, rfl, fun g hg => ?_⟩
   obtain ⟨r, hr, rfl⟩ : ∃ r, s.H.row k = some r ∧ g = ⟨r.u, r.xs.length⟩ := by
    cases hrk : s.H.row k with
    | none => simp [fitsZ, hrk] at hz
    | some r => rw [geo_row hrk] at hg; injection hg with hg; exact ⟨r, rfl, hg.symm⟩
   have hv := g3 r hr
   have hrm : r.xs.length = m := by
    obtain ⟨_, _, e, _⟩ := hv
    injection e with _ e _
    exact e.symm
   have hfz := fits_row hr hz
   have := cut_row (l := L) (h := Hh) hv b1 (by omega)
   rw [Nat.zero_add] at this
   rw [← hfz]
   exact ⟨by show _ ≤ r.xs.length; omega, this⟩
 ·rename_i k o q
  cases full with
  | true => cases hto
  | false =>
   obtain ⟨rfl, rfl⟩ := hto
   obtain ⟨g1, g2, g3⟩ := relV_rsub hx
   obtain rfl := hMf rfl
   refine ⟨rfl, _, hrun, .inr ⟨[_], relT_of ?_, rfl⟩⟩
   simp only [RelC]
   refine ⟨g1, _, rfl, rfl, fun g hg => ?_⟩
   obtain ⟨r, hr, rfl⟩ : ∃ r, s.H.row k = some r ∧ g = ⟨r.u, r.xs.length⟩ := by
    cases hrk : s.H.row k with
    | none => simp [fitsZ, hrk] at hz
    | some r => rw [geo_row hrk] at hg; injection hg with hg; exact ⟨r, rfl, hg.symm⟩
   obtain ⟨h0, hv⟩ := g3 r hr
   have hrm : q = m := by
    obtain ⟨_, _, e, _⟩ := hv
    injection e with _ e _
    exact e.symm
   have hfz := fits_rsub hr hz
   have := cut_row (l := L) (h := Hh) hv b1 (by omega)
   rw [← hfz]
   exact ⟨by show _ ≤ r.xs.length; omega, this⟩
 ·rename_i k q j n
  cases full with
  | true => cases hto
  | false =>
   rcases hto with ⟨hl, rfl, rfl⟩ | ⟨_, hto⟩
   ·have hl := of_decide_eq_true hl
    have hl : L = 0 := by omega
    subst hl
    obtain rfl := hMf rfl
    obtain ⟨hU, A', len, cap, f1, e, f2, f3⟩ := dsl_at hx
    injection e with e1 e2 e3
    subst e1 e2 e3
    refine ⟨rfl, _, hrun, ?_⟩
    have es : sliced A 0 Hh M u0.size = .slice A Hh M := by
     unfold sliced
     cases A with
     | none => simp
     | some a => simp [Addr.add]
    rw [es]
    exact dsl_relV hU f1 (by omega) f3
   ·cases hto
 ·cases hto
end Go.Proofs.YtdokfjkihjkcmaaGreatDoor.Den

/- Each operation that isn't a call, joined. -/
namespace Go.Proofs.YtdokfjkihjkcmaaGreatDoor.Den
open Go Go.RowKit
set_option linter.unusedVariables false
theorem run_eqGuard_int {P : Program} (W : World) (op : BinOp) (t : TypeId) (x y : Operand) (k k' : IntKind) (a b : Int) : (eqGuard op t x y (.int k a) (.int k' b)).run P W = .ok () W := by
 cases op <;> simp [eqGuard]
theorem run_eqGuard_bool {P : Program} (W : World) (op : BinOp) (t : TypeId) (x y : Operand) (a b : Bool) : (eqGuard op t x y (.bool a) (.bool b)).run P W = .ok () W := by
 cases op <;> simp [eqGuard]
theorem run_eqGuard_str {P : Program} (W : World) (op : BinOp) (t : TypeId) (x y : Operand) (a b : ByteArray) : (eqGuard op t x y (.string a) (.string b)).run P W = .ok () W := by
 cases op <;> simp [eqGuard]
theorem relV_str {s : S4} {xs : List Int} {X : Value} (h : RelV s (.str xs) X) : X = .string (strN xs) := by
 obtain ⟨cs, h1, h2⟩ := h.get (by intro h; cases h) (by intro w h; cases h) rfl
 simp only [RelC] at h1
 subst h1
 exact isVal_one h2 rfl
theorem str_relV {s : S4} {xs : List Int} : RelV s (.str xs) (.string (strN xs)) := by
 refine .inr ⟨[_], relT_of ?_, rfl⟩
 simp only [RelC]
theorem foldl_pushN : ∀ (xs : List Int) (s : ByteArray), xs.foldl (fun r n => r.push (UInt8.ofNat n.toNat)) s = ⟨s.data ++ (xs.map fun n => UInt8.ofNat n.toNat).toArray⟩
 | [], s => by simp
 | x :: xs, s => by
  rw [List.foldl_cons, foldl_pushN xs]
  simp [ByteArray.push]
theorem conv_str {P : Program} {B : Nat} {s : S4} (h : MemOk B s) {v : V} {y : Value} {xs : List Int} (hd : deepen s.H (.sl (.int .u8)) v = some xs) (hy : RelV s v y) {src dst e : TypeId}
  (hs : P.underlying src = some (.slice e)) (he : P.underlying e = some (.int .u8)) (hds : P.underlying dst = some .string) : (convert src dst y).run P s.W = .ok (.string (strN xs)) s.W := by
 obtain ⟨cs, r, iv, _⟩ := deepen_cells h hd hy
 obtain ⟨w, rfl, A, cap, rfl, hn, hx⟩ := r
 have e1 : y = .slice A xs.length cap := isVal_one iv rfl
 subst e1
 rw [run_convert_bytes_string s.W src dst e A xs.length cap hs he hds]
 cases A with
 | none =>
  cases xs with
  | nil => rfl
  | cons x xs =>
   obtain ⟨ad, c, h0, _⟩ := hx 0 x rfl
   cases h0
 | some ad =>
  have hl : (loadCells ad xs.length).run P s.W = .ok (xs.map (Value.int .u8)).toArray s.W := by
   have := run_loadCells P s.W ad (xs.map (Value.int .u8)) (fun j v hj => by
    rw [List.getElem?_map] at hj
    obtain ⟨x, hxj, rfl⟩ := Option.map_eq_some_iff.1 hj
    obtain ⟨ad', c, h0, _, hr, _, hc⟩ := hx j x hxj
    injection h0 with h0
    subst h0
    simp only [RelD] at hr
    subst hr
    have := hc 0 _ rfl
    simpa [U.size] using this)
   rwa [List.length_map] at this
  rw [run_bytesToString s.W ad xs.length cap xs hl, foldl_pushN]
  congr 2
  simp [strN, ByteArray.empty, ByteArray.emptyWithCapacity]
  rfl
theorem binI_ok {P : Program} {s : S4} {op : BinOp} {t : TypeId} {k : IntKind} {a b : Int} {v' : V} {H' : HF} (hto : (binI s.H op k a b).to v' H') :
  H' = s.H ∧ ∃ y, (binOp op t (.int k a) (.int k b)).run P s.W = .ok y s.W ∧ RelV s v' y := by
 cases op <;> simp only [binI, Res.to] at hto
 case quo =>
  rcases hto with ⟨_, hto⟩ | ⟨h0, rfl, rfl⟩
  ·cases hto
  ·simp only [beq_eq_false_iff_ne, ne_eq] at h0
   exact ⟨rfl, _, by simp [binOp, Op.intDiv, h0], int_relV⟩
 case rem =>
  rcases hto with ⟨_, hto⟩ | ⟨h0, rfl, rfl⟩
  ·cases hto
  ·simp only [beq_eq_false_iff_ne, ne_eq] at h0
   exact ⟨rfl, _, by simp [binOp, Op.intDiv, h0], int_relV⟩
 case and => obtain ⟨rfl, rfl⟩ := hto; exact ⟨rfl, .int k (bitsI .and k a b), by simp [binOp, Op.intBits, bitsI], int_relV⟩
 case or => obtain ⟨rfl, rfl⟩ := hto; exact ⟨rfl, .int k (bitsI .or k a b), by simp [binOp, Op.intBits, bitsI], int_relV⟩
 case xor => obtain ⟨rfl, rfl⟩ := hto; exact ⟨rfl, .int k (bitsI .xor k a b), by simp [binOp, Op.intBits, bitsI], int_relV⟩
 case andNot => obtain ⟨rfl, rfl⟩ := hto; exact ⟨rfl, .int k (bitsI .andNot k a b), by simp [binOp, Op.intBits, bitsI], int_relV⟩
 case eql => obtain ⟨rfl, rfl⟩ := hto; exact ⟨rfl, _, by simp [binOp, Op.intCmp], bool_relV⟩
 case neq => obtain ⟨rfl, rfl⟩ := hto; exact ⟨rfl, _, by simp [binOp, Op.intCmp], bool_relV⟩
 case lss => obtain ⟨rfl, rfl⟩ := hto; exact ⟨rfl, _, by simp [binOp, Op.intCmp], bool_relV⟩
 case leq => obtain ⟨rfl, rfl⟩ := hto; exact ⟨rfl, _, by simp [binOp, Op.intCmp], bool_relV⟩
 case gtr => obtain ⟨rfl, rfl⟩ := hto; exact ⟨rfl, _, by simp [binOp, Op.intCmp], bool_relV⟩
 case geq => obtain ⟨rfl, rfl⟩ := hto; exact ⟨rfl, _, by simp [binOp, Op.intCmp], bool_relV⟩
 case add => obtain ⟨rfl, rfl⟩ := hto; exact ⟨rfl, _, by simp [binOp, Op.intArith], int_relV⟩
 case sub => obtain ⟨rfl, rfl⟩ := hto; exact ⟨rfl, _, by simp [binOp, Op.intArith], int_relV⟩
 case mul => obtain ⟨rfl, rfl⟩ := hto; exact ⟨rfl, _, by simp [binOp, Op.intArith], int_relV⟩
theorem shift_ok {P : Program} {s : S4} {left : Bool} {k k' : IntKind} {a b : Int} {v' : V} {H' : HF} (hto : (Res.ite (decide (b < 0)) .fail (.ok (.d (.int k) (shiftI left k a b)) s.H)).to v' H') :
  H' = s.H ∧ ∃ y, (Op.shift (match left with | true => .shl | false => .shr) k a k' b).run P s.W = .ok y s.W ∧ RelV s v' y := by
 rcases hto with ⟨_, hto⟩ | ⟨h0, rfl, rfl⟩
 ·cases hto
 ·have h0 := of_decide_eq_false h0
  refine ⟨rfl, .int k (shiftI left k a b), ?_, int_relV⟩
  cases left <;> simp [Op.shift, h0, shiftI]
theorem binV_ok {P : Program} {E : TE} (hE : TEok P E) {B : Nat} {s : S4} (h : MemOk B s) {op : BinOp} {t : TypeId} {x y : V} {X Y : Value} (hx : RelV s x X) (hy : RelV s y Y) (px py : Operand) {v' : V} {H' : HF} (hto : (binV E s.H op t x y).to v' H') :
  H' = s.H ∧ (eqGuard op t px py X Y).run P s.W = .ok () s.W ∧ ∃ z, (binOp op t X Y).run P s.W = .ok z s.W ∧ RelV s v' z := by
 unfold binV at hto
 split at hto
 ·rename_i k a k' b
  obtain rfl := relV_int hx
  obtain rfl := relV_int hy
  split at hto
  ·obtain ⟨e, z, h1, h2⟩ := shift_ok (P := P) (k' := k') hto
   exact ⟨e, run_eqGuard_int .., z, by simpa [binOp] using h1, h2⟩
  ·obtain ⟨e, z, h1, h2⟩ := shift_ok (P := P) (k' := k') hto
   exact ⟨e, run_eqGuard_int .., z, by simpa [binOp] using h1, h2⟩
  ·split at hto
   ·rename_i hk
    have hk : k = k' := of_decide_eq_true hk
    subst hk
    obtain ⟨e, z, h1, h2⟩ := binI_ok (P := P) (t := t) hto
    exact ⟨e, run_eqGuard_int .., z, h1, h2⟩
   ·cases hto
 ·rename_i a b
  obtain rfl := relV_bool hx
  obtain rfl := relV_bool hy
  split at hto
  ·rename_i hb
   have hb := hE.bool t hb
   split at hto
   ·obtain ⟨rfl, rfl⟩ := hto
    exact ⟨rfl, run_eqGuard_bool .., _, run_eql_bool s.W t a b hb, bool_relV⟩
   ·obtain ⟨rfl, rfl⟩ := hto
    exact ⟨rfl, run_eqGuard_bool .., _, run_neq_bool s.W t a b hb, bool_relV⟩
   ·cases hto
  ·cases hto
 ·rename_i a b
  obtain rfl := relV_str hx
  obtain rfl := relV_str hy
  split at hto
  ·obtain ⟨rfl, rfl⟩ := hto
   exact ⟨rfl, run_eqGuard_str .., .bool (strQ a b), by simp only [binOp, Op.stringOp]; rfl, bool_relV⟩
  ·obtain ⟨rfl, rfl⟩ := hto
   exact ⟨rfl, run_eqGuard_str .., .bool (!(strQ a b)), by simp only [binOp, Op.stringOp]; rfl, bool_relV⟩
  ·cases hto
 ·split at hto
  ·rename_i u hu
   split at hto
   ·rename_i hq
    simp only [Bool.and_eq_true] at hq
    obtain ⟨g1, g2⟩ := hE.eq t u hu hq.1 hq.2
    split at hto
    ·rename_i xx hxx
     split at hto
     ·rename_i yy hyy
      obtain ⟨xs, x1, x2, _⟩ := deepen_cells h hxx hx
      obtain ⟨ys, y1, y2, _⟩ := deepen_cells h hyy hy
      rw [hq.2] at x2 y2
      simp only [IsVal] at x2 y2
      subst x2 y2
      have hr := g2 s.W _ _ xx yy xs ys x1 y1
      split at hto
      ·obtain ⟨rfl, rfl⟩ := hto
       exact ⟨rfl, run_eqGuard_agg s.W _ t px py _ _ g1, _, by rw [run_eql_struct, hr]; rfl, bool_relV⟩
      ·obtain ⟨rfl, rfl⟩ := hto
       exact ⟨rfl, run_eqGuard_agg s.W _ t px py _ _ g1, _, by rw [run_neq_struct, hr]; rfl, bool_relV⟩
      ·cases hto
     ·cases hto
    ·cases hto
   ·cases hto
  ·cases hto
theorem unV_ok {P : Program} {s : S4} {op : UnOp} {x v' : V} {X : Value} {H' : HF} (hx : RelV s x X) (hto : (unV s.H op x).to v' H') : H' = s.H ∧ ∃ y, (Op.unary op X).run P s.W = .ok y s.W ∧ RelV s v' y := by
 unfold unV at hto
 split at hto
 ·rename_i b
  obtain rfl := relV_bool hx
  split at hto
  ·obtain ⟨rfl, rfl⟩ := hto
   exact ⟨rfl, _, by simp [Op.unary], bool_relV⟩
  ·cases hto
 ·rename_i k n
  obtain rfl := relV_int hx
  split at hto
  ·obtain ⟨rfl, rfl⟩ := hto
   exact ⟨rfl, .int k (k.wrap (0 - n)), by simp [Op.unary, Op.intArith], int_relV⟩
  ·obtain ⟨rfl, rfl⟩ := hto
   exact ⟨rfl, .int k (bitsI .xor k (if k.signed then -1 else k.max) n), by simp [Op.unary, Op.intBits, bitsI], int_relV⟩
  ·cases hto
 ·cases hto
theorem run_part {P : Program} {e : TypeId} {u : U} {bt : Nat} (he : ElemFact P e u bt) (W : World) (cs : Array Value) (o : Nat) (vs : List Value) (hl : vs.length = u.size) (hv : (cs.toList.drop o).take u.size = vs) :
  ∃ y, (part e cs o).run P W = .ok y W ∧ IsVal u.agg vs y := by
 obtain ⟨d, hd, hg⟩ := he.und
 obtain ⟨i, z, hi, hsz, _⟩ := he.info
 have hagg : (isAgg e).run P W = .ok u.agg W := by
  unfold isAgg underlying
  simp only [Sem.run_bind, run_program, Result.andThen_ok, hd, Sem.run_pure]
  rw [← hg]
  cases d <;> rfl
 have hs : (sizeOf e).run P W = .ok u.size W := by simp [sizeOf, typeInfo, hi, hsz]
 unfold part
 simp only [Sem.run_bind, hagg, Result.andThen_ok]
 cases hu : u.agg with
 | true =>
  refine ⟨.agg (cs.extract o (o + u.size)), ?_, ?_⟩
  ·simp [hs]
  ·simp only [IsVal]
   congr 1
   apply Array.ext'
   rw [Array.toList_extract, ← hv]
   simp [List.extract_eq_take_drop]
 | false =>
  have h1 : u.size = 1 := by
   cases u <;> simp [U.agg] at hu <;> rfl
  rw [h1] at hl hv
  obtain ⟨v, rfl⟩ : ∃ v, vs = [v] := by
   match vs, hl with
   | [v], _ => exact ⟨v, rfl⟩
  have : cs[o]? = some v := by
   have := congrArg (fun l => l[0]?) hv
   simpa using this
  exact ⟨v, by simp [this], rfl⟩
theorem run_partF {P : Program} {e : TypeId} {n : Nat} {g : Bool} (he : TyFact P e n g) (h1 : g = false → n = 1) (W : World) (cs : Array Value) (o : Nat) (vs : List Value) (hl : vs.length = n) (hv : (cs.toList.drop o).take n = vs) :
  ∃ y, (part e cs o).run P W = .ok y W ∧ IsVal g vs y := by
 obtain ⟨d, hd, hg⟩ := he.und
 obtain ⟨i, hi, hsz⟩ := he.info
 have hagg : (isAgg e).run P W = .ok g W := by
  unfold isAgg underlying
  simp only [Sem.run_bind, run_program, Result.andThen_ok, hd, Sem.run_pure]
  rw [← hg]
  cases d <;> rfl
 have hs : (sizeOf e).run P W = .ok n W := by simp [sizeOf, typeInfo, hi, hsz]
 unfold part
 simp only [Sem.run_bind, hagg, Result.andThen_ok]
 cases g with
 | true =>
  refine ⟨.agg (cs.extract o (o + n)), ?_, ?_⟩
  ·simp [hs]
  ·simp only [IsVal]
   congr 1
   apply Array.ext'
   rw [Array.toList_extract, ← hv]
   simp [List.extract_eq_take_drop]
 | false =>
  have h1 := h1 rfl
  subst h1
  obtain ⟨v, rfl⟩ : ∃ v, vs = [v] := by
   match vs, hl with
   | [v], _ => exact ⟨v, rfl⟩
  have : cs[o]? = some v := by
   have := congrArg (fun l => l[0]?) hv
   simpa using this
  exact ⟨v, by simp [this], rfl⟩
theorem field_ok {P : Program} {E : TE} (hE : TEok P E) {s : S4} {t f o n : Nat} {g : Bool} {v w : V} {X : Value} (hx : RelV s v X) (hw : v.get [.fld f] = some w) (ho : v.sk.off [.fld f] = some o) (hf : E.fpart t f = some (o, n, g)) (hn : w.size = n) (hg : w.agg = g) (ha : v.agg = true) :
  ∃ y, (Instr.field t X f).run P s.W = .ok y s.W ∧ RelV s w y := by
 have hnt : ∀ q, v ≠ .tup q := by rintro q rfl; simp [V.get] at hw
 have hnu : v ≠ .undef := by rintro rfl; simp [V.get] at hw
 have hny : v.isY = false := by
  cases v with
  | fn _ _ _ => simp [V.get] at hw
  | _ => rfl
 obtain ⟨cs, h1, h2⟩ := hx.get hnu hnt hny
 rw [ha] at h2
 have h2 : X = .agg cs.toArray := h2
 subst h2
 obtain ⟨_, g2⟩ := get_rel hw h1 ho
 obtain ⟨fs, fd, q1, q2, rfl, q4, q5⟩ := hE.fpart t f o n g hf
 obtain ⟨y, hy, hv⟩ := run_partF q4 q5 s.W cs.toArray fd.offset _ (by rw [g2.len]; exact hn) (by rw [hn])
 refine ⟨y, ?_, relV_of g2 (by rw [hg]; exact hv)⟩
 simp [Instr.field, underlying, q1, q2, asAgg, hy]
theorem index_ok {P : Program} {t e n : Nat} {u : U} {bt : Nat} (ht : P.underlying t = some (.array n e)) (he : ElemFact P e u bt) {s : S4} {xs : List u.T} {X : Value} (hx : RelV s (.d (.arr n u) xs) X) {k : IntKind} {i : Int} (h0 : 0 ≤ i) (hi : i < n) :
  ∃ y, (Instr.index t X (.int k i)).run P s.W = .ok y s.W ∧ RelV s (.d u (xs.getD i.toNat u.zero)) y := by
 obtain ⟨cs, h1, h2⟩ := hx.get (by intro h; cases h) (by intro w h; cases h)
 simp only [RelC, RelD] at h1
 obtain ⟨hl, hc, hel⟩ := h1
 have h2 : X = .agg cs.toArray := h2
 subst h2
 have hin : i.toNat < xs.length := by rw [hl]; omega
 have hr := hel _ _ (getD_of (d := u.zero) hin)
 obtain ⟨y, hy, hv⟩ := run_part (P := P) he s.W cs.toArray (i.toNat * u.size) _ hr.len rfl
 obtain ⟨d, z, hi', hsz, _⟩ := he.info
 have hs : (sizeOf e).run P s.W = .ok u.size s.W := by simp [sizeOf, typeInfo, hi', hsz]
 refine ⟨y, ?_, relV_d hr hv⟩
 have hcond : 0 ≤ i ∧ i < (n : Int) := ⟨h0, hi⟩
 simp [Instr.index, asIntOf, run_underlying ht, hcond, hs, hy]
theorem selA_to {H H' : HF} {i : Int} {v : V} : ∀ {w : V} {k : Nat}, (selA H i w k).to v H' → H' = H ∧ ∃ j : Nat, i = ((k + j : Nat) : Int) ∧ w.get [.fld j] = some v
 | .cons a r, k, h => by
  simp only [selA] at h
  rcases h with ⟨h1, h2⟩ | ⟨_, h2⟩
  ·obtain ⟨rfl, rfl⟩ := h2
   have h1 : i = (k : Int) := by simpa using h1
   exact ⟨rfl, 0, by simpa using h1, by simp [V.get]⟩
  ·obtain ⟨h3, j, h4, h5⟩ := selA_to h2
   exact ⟨h3, j + 1, by rw [h4]; congr 1; omega, by simp only [V.get]; exact h5⟩
 | .d _ _, _, h => h.elim
 | .nil, _, h => h.elim
 | .nilsl, _, h => h.elim
 | .dfull _ _, _, h => h.elim
 | .row _, _, h => h.elim
 | .rsub _ _ _, _, h => h.elim
 | .pvar _ _, _, h => h.elim
 | .prow _ _ _, _, h => h.elim
 | .pdeep _ _, _, h => h.elim
 | .fn _ _ _, _, h => h.elim
 | .tup _, _, h => h.elim
 | .mp _, _, h => h.elim
 | .mapd _ _, _, h => h.elim
 | .hrow _ _ _ _ _, _, h => h.elim
 | .str _, _, h => h.elim
 | .drow _ _ _ _ _, _, h => h.elim
 | .dsl _ _ _ _, _, h => h.elim
 | .dpi _ _ _ _ _, _, h => h.elim
 | .undef, _, h => h.elim
theorem indexFn_ok {P : Program} {t e n : Nat} {bt : Nat} (ht : P.underlying t = some (.array n e)) (he : ElemFact P e .fn bt) {s : S4} {w : V} {X : Value} (hx : RelV s w X) (hsk : w.sk = (fnsU n).sk) {k : IntKind} {i : Int} {v : V} {H' : HF} (hto : (selA s.H i w 0).to v H') :
  H' = s.H ∧ ∃ y, (Instr.index t X (.int k i)).run P s.W = .ok y s.W ∧ RelV s v y := by
 obtain ⟨rfl, j, hj, hg⟩ := selA_to hto
 simp only [Nat.zero_add] at hj
 subst hj
 refine ⟨rfl, ?_⟩
 obtain ⟨a, r, rfl⟩ : ∃ a r, w = .cons a r := by
  cases w with
  | cons a r => exact ⟨a, r, rfl⟩
  | d u x =>
   cases n with
   | zero => cases u <;> simp [V.sk, U.sk, fnsU] at hsk; simp [V.get, dget] at hg
   | succ n =>
    exfalso
    simp only [selA] at hto
    exact hto.elim
  | _ => simp [V.get] at hg
 obtain ⟨cs, h1, h2⟩ := hx.get (by intro h; cases h) (by intro w h; cases h)
 have h2 : X = .agg cs.toArray := h2
 subst h2
 obtain ⟨o, ho⟩ := get_fld_off hg
 obtain ⟨g1, g2⟩ := get_rel hg h1 ho
 rw [hsk, sk_off] at ho
 obtain ⟨f1, f2, f3⟩ := fns_off ho
 subst f2
 rw [hsk, sk_dcode, f3] at g1
 simp only [Option.map_some] at g1
 injection g1 with g1
 have hv : v.size = 1 := by unfold V.size; rw [← g1]; rfl
 have hagg : v.agg = false := by unfold V.agg; rw [← g1]; rfl
 rw [hv] at g2
 have hl : ((cs.drop o).take 1).length = 1 := by rw [g2.len, hv]
 obtain ⟨y, hy, hiv⟩ := run_part (P := P) he s.W cs.toArray (o * U.size .fn) ((cs.drop o).take 1) hl (by simp [U.size])
 obtain ⟨d, z, hi', hsz, _⟩ := he.info
 have hs : (sizeOf e).run P s.W = .ok (U.size .fn) s.W := by simp [sizeOf, typeInfo, hi', hsz]
 refine ⟨y, ?_, relV_of g2 (by rw [hagg]; exact hiv)⟩
 have hcond : ¬ n ≤ o := by omega
 simp [Instr.index, asIntOf, run_underlying ht, hs, hy]
 intro hle
 exact absurd hle hcond
theorem nth_ok {s : S4} : ∀ {vs : V} {l : List Value} {i : Nat} {v : V}, aop.nthV vs i = some v → RelVL s vs l → ∃ x, l[i]? = some x ∧ RelV1 s v x
 | .cons a b, l, 0, v, h, hr => by
  simp only [aop.nthV] at h
  injection h with h
  subst h
  obtain ⟨x, r, rfl, h1, _⟩ := hr
  exact ⟨x, rfl, h1⟩
 | .cons a b, l, i + 1, v, h, hr => by
  simp only [aop.nthV] at h
  obtain ⟨x, r, rfl, _, h2⟩ := hr
  obtain ⟨y, h3, h4⟩ := nth_ok h h2
  exact ⟨y, by simpa using h3, h4⟩
 | .d _ _, _, _, _, h, _ => by simp [aop.nthV] at h
 | .nil, _, _, _, h, _ => by simp [aop.nthV] at h
 | .nilsl, _, _, _, h, _ => by simp [aop.nthV] at h
 | .dfull _ _, _, _, _, h, _ => by simp [aop.nthV] at h
 | .row _, _, _, _, h, _ => by simp [aop.nthV] at h
 | .rsub _ _ _, _, _, _, h, _ => by simp [aop.nthV] at h
 | .pvar _ _, _, _, _, h, _ => by simp [aop.nthV] at h
 | .prow _ _ _, _, _, _, h, _ => by simp [aop.nthV] at h
 | .pdeep _ _, _, _, _, h, _ => by simp [aop.nthV] at h
 | .fn _ _ _, _, _, _, h, _ => by simp [aop.nthV] at h
 | .tup _, _, _, _, h, _ => by simp [aop.nthV] at h
 | .mp _, _, _, _, h, _ => by simp [aop.nthV] at h
 | .mapd _ _, _, _, _, h, _ => by simp [aop.nthV] at h
 | .undef, _, _, _, h, _ => by simp [aop.nthV] at h
theorem listV_rel {s : S4} {T : TF} {a : Act} (hT : TRel s T a.tmps) : ∀ (l : List Operand), (aop.listV T l).cell = true → RelL s (aop.listV T l) (l.map a.eval)
 | [], _ => by simp only [aop.listV, RelL]; rfl
 | x :: l, h => by
  simp only [aop.listV, V.cell, Bool.and_eq_true] at h ⊢
  simp only [RelL]
  obtain ⟨cs, h1, h2⟩ := (evO_rel hT x).get (cell_not h.1).1 (cell_not h.1).2 (cell_noY h.1)
  exact ⟨_, _, cs, rfl, h1, h2, listV_rel hT l h.2⟩
theorem RelV1.toV {s : S4} {v : V} {x : Value} (h : RelV1 s v x) : RelV s v x := by
 cases v with
 | tup w =>
  rcases h with h | ⟨cs, h, _⟩
  ·cases h
  ·simp only [RelT, RelC] at h
 | _ => exact h
end Go.Proofs.YtdokfjkihjkcmaaGreatDoor.Den

/- Maps of whole numbers: a look, a store, a new one. -/
namespace Go.Proofs.YtdokfjkihjkcmaaGreatDoor.Den
open Go Go.RowKit
set_option linter.unusedVariables false
set_option linter.unusedSectionVars false
def midx {α : Type} (xs : List (Int × α × Unit)) (k : Int) : Option Nat := match xs with
 | [] => none
 | p :: r => bif p.1 == k then some 0 else (midx r k).map (· + 1)
theorem midx_some {α : Type} {z v : α} : ∀ {xs : List (Int × α × Unit)} {k : Int} {i : Nat}, midx xs k = some i → ∃ p, xs[i]? = some p ∧ p.1 = k ∧ mget z xs k = p.2.1 ∧ mhas xs k = true ∧ mput xs k v = xs.set i (k, v, ())
 | [], k, i, h => by cases h
 | p :: r, k, i, h => by
  simp only [midx] at h
  simp only [mget, mhas, mput]
  cases e : p.1 == k with
  | true =>
   rw [e] at h
   have h : some 0 = some i := h
   injection h with h
   subst h
   exact ⟨p, rfl, by simpa using e, rfl, rfl, rfl⟩
  | false =>
   rw [e] at h
   have h : (midx r k).map (· + 1) = some i := h
   obtain ⟨j, hj, rfl⟩ := Option.map_eq_some_iff.1 h
   obtain ⟨q, h1, h2, h3, h4, h5⟩ := midx_some (z := z) (v := v) hj
   refine ⟨q, by simpa using h1, h2, h3, h4, ?_⟩
   show p :: mput r k v = _
   rw [h5]
   rfl
theorem midx_none {α : Type} {z v : α} : ∀ {xs : List (Int × α × Unit)} {k : Int}, midx xs k = none → mget z xs k = z ∧ mhas xs k = false ∧ mput xs k v = xs ++ [(k, v, ())]
 | [], k, h => ⟨rfl, rfl, rfl⟩
 | p :: r, k, h => by
  simp only [midx] at h
  simp only [mget, mhas, mput]
  cases e : p.1 == k with
  | true => rw [e] at h; cases h
  | false =>
   rw [e] at h
   have h : (midx r k).map (· + 1) = none := h
   obtain ⟨h1, h2, h3⟩ := midx_none (z := z) (v := v) (Option.map_eq_none_iff.1 h)
   refine ⟨h1, h2, ?_⟩
   show p :: mput r k v = _
   rw [h3]
   rfl
theorem mput_mem {α : Type} {v : α} {k x : Int} : ∀ {xs : List (Int × α × Unit)}, x ∈ (mput xs k v).map (·.1) → x = k ∨ x ∈ xs.map (·.1)
 | [], h => by simpa [mput] using h
 | p :: r, h => by
  simp only [mput] at h
  cases e : p.1 == k with
  | true =>
   rw [e] at h
   have h : x ∈ k :: r.map (·.1) := h
   rcases List.mem_cons.1 h with h | h
   ·exact .inl h
   ·exact .inr (List.mem_cons_of_mem _ h)
  | false =>
   rw [e] at h
   have h : x ∈ p.1 :: (mput r k v).map (·.1) := h
   rcases List.mem_cons.1 h with h | h
   ·exact .inr (by rw [h]; simp)
   ·exact (mput_mem h).imp id (fun h => List.mem_cons_of_mem _ h)
theorem mput_nodup {α : Type} {v : α} {k : Int} : ∀ {xs : List (Int × α × Unit)}, (xs.map (·.1)).Nodup → ((mput xs k v).map (·.1)).Nodup
 | [], _ => by simp [mput]
 | p :: r, h => by
  obtain ⟨h1, h2⟩ := List.nodup_cons.1 h
  simp only [mput]
  cases e : p.1 == k with
  | true =>
   have : p.1 = k := beq_iff_eq.1 e
   rw [← this]
   exact h
  | false =>
   refine List.nodup_cons.2 ⟨fun hm => ?_, mput_nodup h2⟩
   rcases mput_mem hm with hm | hm
   ·have hm : p.1 = k := hm
    rw [hm] at e
    simp at e
   ·exact h1 hm
theorem findNow_ok {α : Type} (k : Int) : ∀ (xs : List (Int × α × Unit)) (es : List MapEntry) (d : Nat), es.length = xs.length → (∀ (i : Nat) p, xs[i]? = some p → ∃ e, es[i]? = some e ∧ e.key = .int .i64 p.1) →
  (midx xs k = none → Instr.findNow (.int .i64) (.int .i64 k) es d = some none) ∧ ∀ i, midx xs k = some i → ∃ e, es[i]? = some e ∧ Instr.findNow (.int .i64) (.int .i64 k) es d = some (some (d + i, e.val))
 | [], [], d, hl, h => ⟨fun _ => rfl, fun i hi => (by cases hi)⟩
 | p :: r, [], d, hl, h => by simp at hl
 | [], e :: es, d, hl, h => by simp at hl
 | p :: r, e :: es, d, hl, h => by
  obtain ⟨e', h1, h2⟩ := h 0 p rfl
  have h1 : some e = some e' := h1
  injection h1 with h1
  subst h1
  obtain ⟨g1, g2⟩ := findNow_ok k r es (d + 1) (by simpa using hl) (fun i q hq => by
   have := h (i + 1) q (by simpa using hq)
   simpa using this)
  simp only [midx, Instr.findNow, h2, Instr.sameNow, if_true]
  cases e1 : p.1 == k with
  | true =>
   have : k = p.1 := by simpa using (beq_iff_eq.1 e1).symm
   subst this
   refine ⟨fun hn => (by cases hn), fun i hi => ?_⟩
   have hi : some 0 = some i := hi
   injection hi with hi
   subst hi
   refine ⟨e, rfl, ?_⟩
   simp
  | false =>
   have hne : (k == p.1) = false := by
    cases e2 : k == p.1 with
    | false => rfl
    | true => rw [beq_iff_eq.1 e2] at e1; simp at e1
   rw [hne]
   refine ⟨fun hn => g1 (Option.map_eq_none_iff.1 hn), fun i hi => ?_⟩
   have hi : (midx r k).map (· + 1) = some i := hi
   obtain ⟨j, hj, rfl⟩ := Option.map_eq_some_iff.1 hi
   obtain ⟨e0, k1, k2⟩ := g2 j hj
   refine ⟨e0, by simpa using k1, ?_⟩
   rw [show d + (j + 1) = d + 1 + j by omega]
   exact k2
theorem run_findKey {P : Program} {k : TypeId} (hk : P.underlying k = some (.int .i64)) (W : World) {n : Int} {es : List MapEntry} {o : Option (Nat × Value)} (h : Instr.findNow (.int .i64) (.int .i64 n) es 0 = some o) :
  (Instr.findKey k (.int .i64 n) es).run P W = .ok o W := by
 simp [Instr.findKey, run_underlying hk, h]
theorem run_checkKey {P : Program} {k : TypeId} (hk : P.underlying k = some (.int .i64)) (W : World) (b : Bool) (n : Int) : (Instr.checkKey b 10000 k (.int .i64 n)).run P W = .ok () W := by
 have : ∀ m, (Instr.checkKey b (m + 1) k (.int .i64 n)).run P W = .ok () W := by
  intro m
  simp [Instr.checkKey, run_underlying hk]
 exact this 9999
theorem mel_one {W : World} {I : Nat → Prop} {u : U} (hu : u.mel = true) {x : u.T} {v : Value} : RelD W I u x [v] → IsVal u.agg [v] v := by
 intro _
 cases u <;> simp [U.mel] at hu <;> rfl
theorem mel_agg {u : U} (hu : u.mel = true) : u.agg = false ∧ u.size = 1 := by
 cases u <;> simp [U.mel] at hu <;> exact ⟨rfl, rfl⟩
theorem mel_any {W W' : World} {I I' : Nat → Prop} {u : U} (hu : u.mel = true) {x : u.T} {cs : List Value} (h : RelD W I u x cs) : RelD W' I' u x cs := by
 cases u <;> simp [U.mel] at hu <;> exact h
theorem relV_mp {s : S4} {k : Nat} {x : Value} (h : RelV s (.mp k) x) : s.U k ∧ x.oneCell' = true ∧ ∀ c, s.H.var k = some c → c.isH = false → c.sk = .int .i64 ∧ x = .map (some (s.ρ.var k)) := by
 obtain ⟨cs, hr, hv⟩ := h.get (by intro h; cases h) (by intro w h; cases h)
 simp only [RelC] at hr
 obtain ⟨hu, v, rfl, h1, h2⟩ := hr
 have := isVal_one hv rfl
 subst this
 exact ⟨hu, h1, fun c hc hh => h2 c (var_pv hc hh)⟩
theorem asI64_some {v : V} {n : Int} (h : asI64 v = some n) : v = .d (.int .i64) n := by
 unfold asI64 at h
 split at h
 ·injection h with h; subst h; rfl
 ·cases h
theorem lookFn_to {ok : Bool} {H H' : HF} {n : Int} {v : V} : ∀ {ys : List (Int × Nat × Unit)}, (lookFn ok H n ys).to v H' → v = lookOut .fn ok (mget (0 : Nat) ys n) (mhas ys n) ∧ H' = H
 | [], h => ⟨h.1.symm, h.2.symm⟩
 | p :: r, h => by
  simp only [mget, mhas]
  rcases h with ⟨c, h⟩ | ⟨c, h⟩
  ·rw [c]
   exact ⟨h.1.symm, h.2.symm⟩
  ·rw [c]
   exact lookFn_to h
theorem lookAt_to {H H' : HF} {ok : Bool} {n : Int} {u : U} {ys : List (Int × u.T × Unit)} {v : V} (h : (lookAt H ok n u ys).to v H') : v = lookOut u ok (mget u.zero ys n) (mhas ys n) ∧ H' = H := by
 cases u with
 | fn => exact lookFn_to h
 | _ => exact ⟨h.1.symm, h.2.symm⟩
section
variable {P : Program} {E : TE} (hE : TEok P E) {B : Nat} {s : S4} (h : MemOk B s)
include hE h
theorem lookupV_ok {t : Nat} {ok : Bool} {x : V} {X : Value} {n : Int} {v : V} {H' : HF} (hx : RelV s x X) (hto : (lookupV E s.H t ok x n).to v H') :
  H' = s.H ∧ ∃ y, (Instr.lookup t X (.int .i64 n) ok).run P s.W = .ok y s.W ∧ RelV s v y := by
 unfold lookupV at hto
 split at hto
 case h_2 => cases hto
 rename_i u hu
 split at hto
 case h_2 => cases hto
 rename_i k
 split at hto
 case h_2 => cases hto
 rename_i u' xs hk
 split at hto
 case h_2 => cases hto
 rename_i ys hys
 obtain ⟨e, he⟩ := castT_some hys
 injection e with e
 injection e with e1 e2
 injection e2 with e2 e3
 subst e2
 have he : xs = ys := he
 subst he
 obtain ⟨hmel, kt, et, ht, hkt, z, hz, hzc⟩ := hE.mp t _ hu
 obtain ⟨_, _, hX⟩ := relV_mp hx
 obtain ⟨_, rfl⟩ := hX _ hk rfl
 obtain ⟨_, _, _, o, ho, es, clock, rfl, ⟨m1, m2, m3, m5, m4⟩⟩ := h.var k _ hk
 have hfn := findNow_ok n xs es.toList 0 (by simpa using m2) (fun i p hi => by
  obtain ⟨e, g1, g2, _⟩ := m4 i p hi
  exact ⟨e, by rw [Array.getElem?_toList]; exact g1, g2⟩)
 have key : ∃ y, (Instr.lookup t (.map (some (s.ρ.var k))) (.int .i64 n) ok).run P s.W = .ok (if ok then .tuple #[y, .bool (mhas xs n)] else y) s.W ∧ RelD s.W s.I u' (mget u'.zero xs n) [y] := by
  cases hm : midx xs n with
  | none =>
   obtain ⟨a1, a2, _⟩ := midx_none (z := u'.zero) (v := u'.zero) hm
   refine ⟨z, ?_, ?_⟩
   ·rw [a2]
    simp [Instr.lookup, run_underlying ht, MapKept.run_getObj_map ho, run_checkKey hkt, run_findKey hkt s.W (hfn.1 hm), hz]
   ·rw [a1, ← hzc]
    exact RelD.zero s.W s.I u'
  | some i =>
   obtain ⟨p, a1, a2, a3, a4, _⟩ := midx_some (z := u'.zero) (v := u'.zero) hm
   obtain ⟨e, b1, b2⟩ := hfn.2 i hm
   obtain ⟨e', c1, c2, c3, c4⟩ := m4 i p a1
   rw [Array.getElem?_toList, c1] at b1
   injection b1 with b1
   subst b1
   refine ⟨e'.val, ?_, ?_⟩
   ·rw [a4]
    simp [Instr.lookup, run_underlying ht, MapKept.run_getObj_map ho, run_checkKey hkt, run_findKey hkt s.W b2]
   ·rw [a3]
    exact c4
 obtain ⟨y, k1, k2⟩ := key
 have hv : RelV1 s (.d u' (mget u'.zero xs n)) y := .inr ⟨[y], relT_of (v := .d u' _) (by simp only [RelC]; exact k2), by
  have := mel_one m1 k2
  simpa [V.agg, V.sk, U.sk_agg] using this⟩
 obtain ⟨rfl, rfl⟩ := lookAt_to hto
 cases ok with
 | true =>
  refine ⟨rfl, _, k1, [y, .bool (mhas xs n)], rfl, y, _, rfl, hv, .bool (mhas xs n), [], rfl, ?_, rfl⟩
  exact .inr ⟨[.bool (mhas xs n)], relT_of (v := .d .bool (mhas xs n)) (by simp only [RelC]; rfl), rfl⟩
 | false => exact ⟨rfl, _, k1, hv⟩
theorem updateV_ok {t : Nat} {x w : V} {X Y : Value} {n : Int} {v : V} {H' : HF} (hx : RelV s x X) (hw : RelV s w Y) (hto : (updateV E s.H t x n w).to v H') :
  v = .undef ∧ ∃ t' : S4, t'.H = H' ∧ MemOk B t' ∧ Ext B s t' ∧ (∀ k, t'.U k → s.U k) ∧ (Instr.mapUpdate t X (.int .i64 n) Y).run P s.W = .ok () t'.W := by
 unfold updateV at hto
 split at hto
 case h_2 => cases hto
 rename_i u hu
 split at hto
 case h_2 => cases hto
 rename_i k
 split at hto
 case h_2 => cases hto
 rename_i u' xs hk
 split at hto
 case h_2 => cases hto
 rename_i ys hys
 obtain ⟨e, he⟩ := castT_some hys
 injection e with e
 injection e with e1 e2
 injection e2 with e2 e3
 subst e2
 have he : xs = ys := he
 subst he
 split at hto
 case h_2 => cases hto
 split at hto
 case h_2 => cases hto
 rename_i y hd
 rcases hto with ⟨hroom, hv1, hv2⟩ | ⟨_, hto⟩
 case inr => cases hto
 subst hv1 hv2
 have hroom := of_decide_eq_true hroom
 obtain ⟨hmel, kt, et, ht, hkt, z, hz, hzc⟩ := hE.mp t _ hu
 obtain ⟨_, _, hX⟩ := relV_mp hx
 obtain ⟨_, rfl⟩ := hX _ hk rfl
 obtain ⟨hU, _, _, o, ho, es, clock, rfl, ⟨m1, m2, m3, m5, m4⟩⟩ := h.var k _ hk
 obtain ⟨cs, c1, c2, c3⟩ := deepen_cells h hd hw
 have cY : RelD s.W s.I u' y [Y] := by
  have hcs : cs = [Y] := by rw [(mel_agg m1).1] at c2; exact c2
  subst hcs
  exact mel_any m1 c1
 have hfn := findNow_ok n xs es.toList 0 (by simpa using m2) (fun i p hi => by
  obtain ⟨e, g1, g2, _⟩ := m4 i p hi
  exact ⟨e, by rw [Array.getElem?_toList]; exact g1, g2⟩)
 have key : ∃ es' clock', (Instr.mapUpdate t (.map (some (s.ρ.var k))) (.int .i64 n) Y).run P s.W = .ok () { s.W with heap := s.W.heap.setIfInBounds (s.ρ.var k) (.map es' clock') } ∧ MapRel s.W s.I u' (mput xs n y) es' clock' := by
  cases hm : midx xs n with
  | none =>
   obtain ⟨_, _, a3⟩ := midx_none (z := u'.zero) (v := y) hm
   refine ⟨es.push ⟨.int .i64 n, Y, clock⟩, clock + 1, ?_, m1, ?_, ?_, mput_nodup m5, fun i p hi => ?_⟩
   ·simp [Instr.mapUpdate, run_underlying ht, MapKept.run_getObj_map ho, run_checkKey hkt, run_findKey hkt s.W (hfn.1 hm), MapKept.run_setObj_map _ ho, Result.andThen]
   ·rw [a3]; simp [m2]
   ·rw [a3]; simp [m3]
   ·rw [a3] at hi
    rcases Nat.lt_trichotomy i xs.length with hl | hl | hl
    ·rw [List.getElem?_append_left hl] at hi
     obtain ⟨e, g1, g2, g3, g4⟩ := m4 i p hi
     refine ⟨e, ?_, g2, g3, g4⟩
     rw [Array.getElem?_push_lt (by omega), ← g1]
     exact (Array.getElem?_eq_getElem (by omega)).symm
    ·subst hl
     simp at hi
     subst hi
     refine ⟨⟨.int .i64 n, Y, clock⟩, ?_, rfl, m3, cY⟩
     rw [← m2]
     simp
    ·rw [List.getElem?_eq_none (by simp; omega)] at hi
     cases hi
  | some i =>
   obtain ⟨p, a1, a2, _, _, a5⟩ := midx_some (z := u'.zero) (v := y) hm
   obtain ⟨e, b1, b2⟩ := hfn.2 i hm
   obtain ⟨e', d1, d2, d3, d4⟩ := m4 i p a1
   have hil := (List.getElem?_eq_some_iff.1 a1).1
   refine ⟨es.modify i fun e => { e with key := .int .i64 n, val := Y }, clock, ?_, m1, ?_, ?_, mput_nodup m5, fun j q hj => ?_⟩
   ·simp [Instr.mapUpdate, run_underlying ht, MapKept.run_getObj_map ho, run_checkKey hkt, run_findKey hkt s.W b2, d1, d2, Instr.keyThatStays, Instr.sameBits, a2, MapKept.run_setObj_map _ ho, Result.andThen]
   ·rw [a5]; simp [m2]
   ·rw [a5]; simp [m3]
   ·rw [a5] at hj
    rcases Nat.decEq i j with hne | rfl
    ·rw [List.getElem?_set_ne hne] at hj
     obtain ⟨e2, g1, g2, g3, g4⟩ := m4 j q hj
     refine ⟨e2, ?_, g2, g3, g4⟩
     rw [Array.getElem?_modify, if_neg hne, g1]
    ·rw [List.getElem?_set_self hil] at hj
     injection hj with hj
     subst hj
     refine ⟨{ e' with key := .int .i64 n, val := Y }, ?_, rfl, d3, cY⟩
     rw [Array.getElem?_modify, if_pos rfl, d1]
     rfl
 obtain ⟨es', clock', k1, k2⟩ := key
 have hb : s.ρ.var k < s.W.heap.size := (Array.getElem?_eq_some_iff.1 ho).1
 have hput : WPut s.W { s.W with heap := s.W.heap.setIfInBounds (s.ρ.var k) (.map es' clock') } (s.ρ.var k) (.map es' clock') := by
  refine ⟨rfl, rfl, rfl, by simp, fun i hi => ?_, ?_, ?_⟩
  ·show (s.W.heap.setIfInBounds _ _)[i]? = _
   rw [Array.getElem?_setIfInBounds_ne (Ne.symm hi)]
  ·show (s.W.heap.setIfInBounds _ _)[_]? = _
   rw [Array.getElem?_setIfInBounds_self_of_lt hb]
  ·unfold bsize
   simp only [Array.getElem?_setIfInBounds_self_of_lt hb, ho]
 have hsk : (V.mapd u' (mput xs n y)).sk = (V.mapd u' xs).sk := rfl
 exact ⟨rfl, s.putVar _ k (.mapd u' (mput xs n y)), rfl, memOk_putVarO h (var_pv hk rfl) hsk rfl hput ⟨es', clock', rfl, k2⟩, ext_putVarO h (var_pv hk rfl) hsk rfl hput, fun _ hk => hk, k1⟩
theorem makeMap_ok {key : Nat} (hu : ¬ s.U key) (hkx : key < s.H.nx) {t : Nat} {u : U} (ht : E.mp t = some u) :
  ∃ t' : S4, t'.H = s.H.setVar key (.mapd u []) ∧ MemOk B t' ∧ Ext B s t' ∧ (∀ k, t'.U k → s.U k ∨ k = key) ∧ t'.W = s.W.alloc (.map #[] 0) ∧ RelV t' (.mp key) (.map (some s.W.heap.size)) := by
 obtain ⟨hmel, kt, et, hmt, hkt, z, hz, hzc⟩ := hE.mp t _ ht
 have w := wkeep_alloc h (.map #[] 0)
 have m1 := w.memOk h
 have x1 := w.ext h
 have hb : (s.setW (s.W.alloc (.map #[] 0))).W.heap[s.W.heap.size]? = some (.map #[] 0) := by
  show (s.W.heap.push _)[s.W.heap.size]? = _
  simp
 have hf : Free B (s.setW (s.W.alloc (.map #[] 0))) s.W.heap.size := ⟨h.bsz, fun hI => Nat.lt_irrefl _ (h.ilt _ hI), fun k c hc => Nat.ne_of_lt (h.varlt (k := k) (c := c) hc), fun k r b0 hr hw hp => Nat.lt_irrefl _ (h.rowlt (k := k) (r := r) hr hp), fun k i hi => Nat.lt_irrefl _ (h.dj.inlt (k := k) (i := i) hi).1⟩
 have hrel : RelO (s.setW (s.W.alloc (.map #[] 0))) (.mapd u []) (.map #[] 0) := ⟨#[], 0, rfl, hmel, rfl, rfl, List.nodup_nil, fun i p hi => by simp at hi⟩
 have m2 := memOk_addVarO m1 (key := key) (c := .mapd u []) rfl hu hkx hf hb hrel
 have x2 := ext_addVar (B := B) (s := s.setW (s.W.alloc (.map #[] 0))) (b := s.W.heap.size) (c := .mapd u []) hu
 refine ⟨_, rfl, m2, x1.trans x2, fun k hk => hk, rfl, .inr ⟨[.map (some s.W.heap.size)], relT_of ?_, rfl⟩⟩
 simp only [RelC]
 refine ⟨.inr rfl, _, rfl, rfl, fun c hc => ?_⟩
 rcases addVar_pv hc with ⟨_, rfl⟩ | ⟨hne, _⟩
 ·refine ⟨rfl, ?_⟩
  simp [S4.addVar]
 ·exact absurd rfl hne
end
end Go.Proofs.YtdokfjkihjkcmaaGreatDoor.Den

/- Each operation that isn't a call, joined. -/
namespace Go.Proofs.YtdokfjkihjkcmaaGreatDoor.Den
open Go Go.RowKit
set_option linter.unusedVariables false
set_option linter.unusedSectionVars false
theorem relC_ifc {s : S4} {t : Nat} {v : V} {cs : List Value} (h : RelC s (.fn t (.cons v .nil) .undef) cs) : ∃ X cx, cs = [.iface t X] ∧ RelC s v cx ∧ IsVal v.agg cx X := by
 simp only [RelC] at h
 rcases h with ⟨_, X, rfl, h⟩ | ⟨l, m, _, _, h⟩
 ·simp only [RelL] at h
  obtain ⟨Y, r, cx, e, hr, hX, rfl⟩ := h
  injection e with e1 e2
  subst e1
  exact ⟨X, cx, rfl, hr, hX⟩
 ·simp only [RelL] at h
theorem relC_fn {s : S4} {f : Nat} {a b : V} {cs : List Value} (h : RelC s (.fn f a b) cs) (hb : b.isU = false) : ∃ l m : List Value, cs = [.func (.func f) l.toArray m.toArray] ∧ RelL s a l ∧ RelL s b m := by
 simp only [RelC] at h
 rcases h with ⟨e, _⟩ | h
 ·rw [e] at hb; cases hb
 ·exact h
theorem OpOk.ofVal {P : Program} {B : Nat} {s : S4} {key : Nat} {m : Sem Value} {v : V} {H' : HF} (h : ValOk B s key (m.run P s.W) v H') : OpOk B s key ((do pure (.value (← m)) : Sem Next).run P s.W) v H' := by
 obtain ⟨t, h1, h2, h3, h4, x, h5, h6⟩ := h
 refine ⟨t, h1, h2, h3, h4, .inl ⟨x, ?_, h6⟩⟩
 simp [h5]
theorem OpOk.ofVal0 {P : Program} {B : Nat} {s : S4} (h : MemOk B s) {key : Nat} {m : Sem Value} {v : V} {H' : HF} (hv : H' = s.H ∧ ∃ y, m.run P s.W = .ok y s.W ∧ RelV s v y) : OpOk B s key ((do pure (.value (← m)) : Sem Next).run P s.W) v H' := by
 obtain ⟨rfl, y, h1, h2⟩ := hv
 exact .ofVal (ValOk.same h h1 h2)
theorem valOk_key {B : Nat} {s t : S4} {key : Nat} {run : Result Value} {v : V} {H' : HF} (a1 : t.H = H') (a2 : MemOk B t) (a3 : Ext B s t) (a4 : ∀ k, t.U k → s.U k ∨ k = key) {x : Value} (a5 : run = .ok x t.W) (a6 : RelV t v x) : ValOk B s key run v H' :=
 ⟨t, a1, a2, a3, fun k hk => (a4 k hk).imp id (fun e => by omega), x, a5, a6⟩
theorem evO_int {s : S4} {T : TF} {a : Act} (hT : TRel s T a.tmps) {x : Operand} {k : IntKind} {n : Int} (h : evO T x = .d (.int k) n) : a.eval x = .int k n := relV_int (h ▸ evO_rel hT x)
theorem evO_bool {s : S4} {T : TF} {a : Act} (hT : TRel s T a.tmps) {x : Operand} {b : Bool} (h : evO T x = .d .bool b) : a.eval x = .bool b := relV_bool (h ▸ evO_rel hT x)
theorem evO_is {s : S4} {T : TF} {a : Act} (hT : TRel s T a.tmps) {x : Operand} {v : V} (h : evO T x = v) : RelV s v (a.eval x) := h ▸ evO_rel hT x
theorem run_zero {P : Program} {t : Nat} {i : TypeInfo} {z : Value} (hi : P.info? t = some i) (hz : i.zero = some z) (W : World) : (zeroValue t).run P W = .ok z W := by
 simp [zeroValue, typeInfo, hi, hz]
theorem flat_row {B : Nat} {s : S4} (h : MemOk B s) {k : Nat} {u : U} {xs : List u.T} (hd : s.H.row k = some ⟨u, xs, true⟩) {y : Value} (hy : RelV s (.row k) y) :
  ∃ t : S4, t.H = s.H.freeze [k] ∧ t.W = s.W ∧ t.U = s.U ∧ MemOk B t ∧ Ext B s t ∧ RelV t (.d (.sl u) xs) y := by
 have hd : deepen s.H (.sl u) (.row k) = some xs := by simp [deepen, hd, castT]
 obtain ⟨t, e1, e2, e3, e4, e5, e6, e7⟩ := freeze_ok (B := B) [k] h
 obtain ⟨cs, g1, g2, _⟩ := deepen_cells h hd hy
 refine ⟨t, e1, e2, e3, e5, e6, .inr ⟨cs, relT_of ?_, ?_⟩⟩
 ·simp only [RelC]
  exact g1.mono (fun b hb => by
   rcases hb with hb | ⟨j, r', base, hj, hr', hp⟩
   ·exact e6.i b hb
   ·exact e7 j hj r' b base hr' hp) (fun b hb => by rw [e2])
 ·simpa [V.agg, V.sk, U.sk_agg] using g2
section
variable {P : Program} {E : TE} (hE : TEok P E) {B : Nat} {s : S4} (h : MemOk B s) {key : Nat} (hu : ¬ s.U key) (hk : key < s.H.nx) (hku : ∀ k, key ≤ k → k < key + 16 → ¬ s.U k) (hkn : key + 16 ≤ s.H.nx) {T : TF} {a : Act} (hT : TRel s T a.tmps)
include hE h hu hk hku hkn hT
theorem alloc_ok {t : Nat} {v : V} {H' : HF} (hto : (aop E key T s.H (.alloc t)).to v H') : ValOk B s key ((Instr.alloc t true (.tuple #[])).run P s.W) v H' := by
 simp only [aop] at hto
 split at hto
 ·rename_i u hut
  obtain ⟨rfl, rfl⟩ := hto
  obtain ⟨i, z, hi, hz, hzc⟩ := hE.zero t u hut
  obtain ⟨t', a1, a2, a3, a4, a5, a6⟩ := newVar_ok h (key := key) hu hk (c := allocV u) (cs := z.cells) (by rw [hzc]; exact allocV_rel u) t
  refine valOk_key a1 a2 a3 a4 ?_ a6
  rw [a5]
  simp [Instr.alloc, run_zero hi hz, newVar, newRow]
 ·cases hto
theorem box_ok {t : Nat} {x : Operand} {v : V} {H' : HF} (hto : (aop E key T s.H (.box t x)).to v H') : ValOk B s key ((Instr.box t (a.eval x)).run P s.W) v H' := by
 simp only [aop] at hto
 split at hto
 ·rename_i hc
  obtain ⟨rfl, rfl⟩ := hto
  obtain ⟨cs, h1, h2⟩ := (evO_rel hT x).get (cell_not hc).1 (cell_not hc).2 (cell_noY hc)
  obtain ⟨t', a1, a2, a3, a4, a5, a6⟩ := newVar_ok h (key := key) hu hk (c := evO T x) (cs := (a.eval x).cells) (by rw [isVal_cells h2 h1.one]; exact h1) t
  refine valOk_key a1 a2 a3 a4 ?_ a6
  rw [a5]
  simp [Instr.box, newVar, newRow]
 ·cases hto
theorem build_ok {t : Nat} {ps : Array (Nat × Operand)} {v : V} {H' : HF} (hto : (aop E key T s.H (.build t ps)).to v H') : ValOk B s key ((Instr.build t (ps.map fun (i, x) => (i, a.eval x))).run P s.W) v H' := by
 simp only [aop] at hto
 split at hto
 ·rename_i p q hut
  split at hto
  ·rename_i w hb
   obtain ⟨rfl, rfl⟩ := hto
   obtain ⟨i, z, hi, hz, hzc⟩ := hE.zero t _ hut
   obtain ⟨fs, places, hfs, hpl, hoff⟩ := hE.build t p q hut
   obtain ⟨cells', e1, e2, e3⟩ := buildFs_ok hT hoff ps.toList (zeroV (.cons p q)) w z.cells hb (zeroV_sk _) (by rw [hzc]; exact zeroV_rel _)
   have hbt : P.built t (ps.map fun (i, x) => (i, a.eval x)).toList = some cells' := by
    simp only [Program.built, hi, hfs, hz, hpl, Array.toList_map]
    exact e1
   refine ValOk.same h (run_build s.W t _ _ hbt) (relV_of e3 ?_)
   have : w.agg = true := by unfold V.agg; rw [e2]; rfl
   rw [this]
   simp [IsVal]
  ·cases hto
 ·rename_i hut
  split at hto
  ·rename_i hnil
   obtain ⟨rfl, rfl⟩ := hto
   obtain ⟨i, z, hi, hz, hzc⟩ := hE.zero t _ hut
   obtain ⟨fs, places, hfs, hpl⟩ := hE.unit t hut
   have hbt : P.built t (ps.map fun (i, x) => (i, a.eval x)).toList = some z.cells := by
    simp only [Program.built, hi, hfs, hz, hpl, Array.toList_map, hnil]
    rfl
   refine ValOk.same h (run_build s.W t _ _ hbt) (.inr ⟨[], relT_of (v := .nil) (by simp [RelC]), ?_⟩)
   have : z.cells = #[] := by
    apply Array.ext'
    rw [hzc]
    rfl
   rw [this]
   rfl
  ·cases hto
 ·rename_i n u hut
  split at hto
  ·rename_i m w ha
   split at hto
   ·rename_i hq
    simp only [Bool.and_eq_true] at hq
    have h1 := of_decide_eq_true hq.1
    have h2 := nat_beq hq.2
    subst h1 h2
    split at hto
    ·rename_i hro
     split at hto
     ·rename_i xs hfill
      obtain ⟨rfl, rfl⟩ := hto
      obtain ⟨i, z, hi, hz, hzc⟩ := hE.zero t _ hut
      obtain ⟨e, bt, hta, hea⟩ := hE.aelem t _ _ ha
      obtain ⟨ie, ze, hie, hsz, _⟩ := hea.info
      have hch : Chunks s.W s.I w (List.replicate m w.zero) z.cells := by
       refine ⟨by rw [← Array.length_toList, hzc, zcells_len]; simp [U.size], fun q x hq => ?_⟩
       have := RelD.zero s.W s.I (.arr m w)
       rw [hzc]
       exact this.2.2 q x (by simpa [U.zero] using hq)
      obtain ⟨cells', e1, e2, e3⟩ := fillV_ok h hT (J := s.I) (fun b hb => hb) ps.toList _ _ _ hfill (fun k r b base hk => by rw [hro] at hk; cases hk) hch
      have hbt : P.built t (ps.map fun (i, x) => (i, a.eval x)).toList = some cells' := by
       simp only [Program.built, hi, hta, hz, hie, hsz, Array.toList_map]
       exact e1
      refine ValOk.same h (run_build s.W t _ _ hbt) (relV_of (cs := cells'.toList) ?_ ?_)
      ·simp only [RelC, RelD]
       have hl : xs.length = m := by rw [e3]; simp
       exact ⟨hl, by rw [Array.length_toList, e2.1, hl], e2.2⟩
      ·simp [V.agg, V.sk, U.sk, U.agg, IsVal]
     ·split at hto
      ·rename_i hq2
       simp only [Bool.and_eq_true] at hq2
       have hfn := of_decide_eq_true hq2.1
       subst hfn
       obtain ⟨k, rfl⟩ : ∃ k, m = k + 1 := ⟨m - 1, by have := hq2.2; simp [Nat.blt_eq] at this; omega⟩
       split at hto
       ·rename_i w hb
        obtain ⟨rfl, rfl⟩ := hto
        obtain ⟨i, z, hi, hz, hzc⟩ := hE.zero t _ hut
        obtain ⟨e, bt, hta, hea⟩ := hE.aelem t _ _ ha
        obtain ⟨ie, ze, hie, hsz, _⟩ := hea.info
        obtain ⟨cells', e1, e2, e3⟩ := buildFs_ok hT (p := .fn) (q := fnsU k) (place := fun i => some (i * U.size .fn, U.size .fn)) (fun f o ho => by
         obtain ⟨_, h2, h3⟩ := fns_off (n := k + 1) ho
         exact ⟨.fn, h3, by simp [U.size, h2]⟩) ps.toList (fnsV (k + 1)) w z.cells hb (fnsV_sk (k + 1)) (by rw [hzc]; exact fnsV_rel (k + 1))
        have hbt : P.built t (ps.map fun (i, x) => (i, a.eval x)).toList = some cells' := by
         simp only [Program.built, hi, hta, hz, hie, hsz, Array.toList_map]
         exact e1
        refine ValOk.same h (run_build s.W t _ _ hbt) (relV_of e3 ?_)
        have : w.agg = true := by unfold V.agg; rw [e2]; rfl
        rw [this]
        simp [IsVal]
       ·cases hto
      ·cases hto
    ·cases hto
   ·cases hto
  ·cases hto
 ·cases hto
 ·split at hto
  ·rename_i b l hbz
   split at hto
   ·rename_i w hb
    obtain ⟨rfl, rfl⟩ := hto
    obtain ⟨i, z, hi, hz, hzc, fs, places, hfs, hpl, hoff⟩ := hE.bz t b l hbz
    obtain ⟨cells', e1, e2, e3⟩ := buildFs_ok hT hoff ps.toList (bzV (b :: l)) w z.cells hb (bzV_sk _) (by rw [hzc]; exact bzV_rel _)
    have hbt : P.built t (ps.map fun (i, x) => (i, a.eval x)).toList = some cells' := by
     simp only [Program.built, hi, hfs, hz, hpl, Array.toList_map]
     exact e1
    refine ValOk.same h (run_build s.W t _ _ hbt) (relV_of e3 ?_)
    have : w.agg = true := by unfold V.agg; rw [e2]; rfl
    rw [this]
    simp [IsVal]
   ·cases hto
  ·cases hto
theorem buildSlice_ok {t n : Nat} {ps : Array (Nat × Operand)} {v : V} {H' : HF} (hto : (aop E key T s.H (.buildSlice t n ps)).to v H') : ValOk B s key ((Instr.buildSlice t n (ps.map fun (i, x) => (i, a.eval x))).run P s.W) v H' := by
 simp only [aop] at hto
 split at hto
 ·rename_i u hut
  obtain ⟨e, hte, he⟩ := hE.elem t u hut
  obtain ⟨i, z, hi, hsz, hbt, hz, hzc⟩ := he.info
  split at hto
  ·rename_i hq
   simp only [Bool.and_eq_true] at hq
   have hroom : n * u.size ≤ 16777216 := by simpa [Nat.ble_eq] using hq.1
   have hpos : 0 < u.size := by simpa [Nat.blt_eq] using hq.2
   split at hto
   ·rename_i xs hfill
    have hzs : z.cells.size = u.size := by rw [← Array.length_toList, hzc, zcells_len]
    obtain ⟨t1, f1, f2, f3, f4, f5, f6, f7⟩ := freeze_ok (rowsOfs T ps.toList) h
    have hchunks : Chunks s.W t1.I u (List.replicate n u.zero) (madeCells z.cells (n * u.size)) := by
     refine ⟨by simp [size_madeCells], fun q x hq => ?_⟩
     have hqn : q < n := by
      have := (List.getElem?_eq_some_iff.1 hq).1
      simpa using this
     have hx : x = u.zero := by
      obtain ⟨_, hx⟩ := List.getElem?_eq_some_iff.1 hq
      rw [← hx]
      simp
     subst hx
     have := made_chunk z.cells n q hqn (by omega)
     rw [hzs] at this
     rw [this, hzc]
     exact RelD.zero _ _ u
    obtain ⟨cells', e1, e2, e3⟩ := fillV_ok h hT (J := t1.I) (fun b hb => f6.i b hb) ps.toList _ _ _ hfill (fun k r b base hk' hr hp => f7 k hk' r b base hr hp) hchunks
    obtain ⟨t', a1, a2, a3, a4, a5, a6⟩ := newRow_ok f5 (key := key) (by rw [f3]; exact hu) (by rw [f1, freeze_nx]; exact hk) hpos (xs := xs) (cells := cells') e2.1 (fun q x hq => by rw [f2]; exact e2.2 q x hq) e
    have hfin : ∀ W', W' = t'.W → (Instr.buildSlice t n (ps.map fun (i, x) => (i, a.eval x))).run P s.W = .ok (.slice (some ⟨t1.W.heap.size, 0, none⟩) xs.length xs.length) W' → ValOk B s key ((Instr.buildSlice t n (ps.map fun (i, x) => (i, a.eval x))).run P s.W) v H' := by
     rintro _ rfl hrun
     split at hto
     ·obtain ⟨rfl, rfl⟩ := hto
      obtain ⟨t2, b1, b2, b3, b4, b5, b6⟩ := flat_row a2 (k := key) (u := u) (xs := xs) (by rw [a1]; simp [HF.setRow]) a6
      refine valOk_key (by rw [b1, a1, f1]) b4 ((f6.trans a3).trans b5) (fun k hk => by rw [← f3]; exact a4 k (by rw [← b3]; exact hk)) (by rw [hrun, b2]) b6
     ·obtain ⟨rfl, rfl⟩ := hto
      exact valOk_key (by rw [a1, f1]) a2 (f6.trans a3) (fun k hk => by rw [← f3]; exact a4 k hk) hrun a6
    refine hfin _ rfl ?_
    rw [a5, f2]
    have hl : xs.length = n := by rw [e3]; simp
    have hrun : (Instr.fill (fun i_1 => some (i_1 * i.size, i.size)) ((Array.range (n * i.size)).map (z.cells[· % z.cells.size]!)) (ps.toList.map fun (i, x) => (i, a.eval x))) = some cells' := by
     rw [hsz]
     exact e1
    have hs : (sizeOf e).run P s.W = .ok i.size s.W := by simp [sizeOf, typeInfo, hi]
    have hn2 : ¬ (16777216 < n * i.size) := by rw [hsz]; omega
    by_cases hn0 : n * i.size = 0
    ·have hm : madeCells #[] (n * i.size) = madeCells z.cells (n * i.size) := by simp [madeCells, hn0]
     unfold madeCells at hm
     rw [← hm] at hrun
     simp [Instr.buildSlice, run_underlying hte, hs, hn0, newRow, hl] at hrun ⊢
     rw [hrun]
     simp
    ·simp [Instr.buildSlice, run_underlying hte, hs, hn2, hn0, run_zero hi hz, hrun, newRow, hl]
   ·cases hto
  ·cases hto
 ·cases hto
omit hE h hu hk hku hkn hT in
theorem undcd_facts {u v0 r0 : U} (h : undcd u = some (v0, r0)) : (dcd v0 r0).size = u.size ∧ zcells u = .slice none 0 0 :: zcells r0 := by
 unfold undcd at h
 split at h
 ·injection h with h
  injection h with h1 h2
  subst h1 h2
  exact ⟨rfl, rfl⟩
 ·injection h with h
  injection h with h1 h2
  subst h1 h2
  exact ⟨dcd_size _ _, rfl⟩
 ·cases h
theorem makeSlice_ok {t : Nat} {l c : Operand} {v : V} {H' : HF} (hto : (aop E key T s.H (.makeSlice t l c)).to v H') : ValOk B s key ((Instr.makeSlice t (a.eval l) (a.eval c)).run P s.W) v H' := by
 simp only [aop] at hto
 split at hto
 ·rename_i u hut
  obtain ⟨e, hte, he⟩ := hE.elem t u hut
  obtain ⟨i, z, hi, hsz, hbt, hz, hzc⟩ := he.info
  split at hto
  ·rename_i n hn
   split at hto
   ·rename_i m hm
    split at hto
    ·rename_i hq
     simp only [Bool.and_eq_true] at hq
     have hpos : 0 < u.size := by simpa [Nat.blt_eq] using hq.1
     have hbpos : 0 < E.ebytes t := by simpa [Nat.blt_eq] using hq.2
     rcases hto with ⟨c1, hto⟩ | ⟨_, hto⟩
     case inr => cases hto
     rcases hto with ⟨c2, hto⟩ | ⟨_, hto⟩
     case inr => cases hto
     rcases hto with ⟨c3, hto⟩ | ⟨_, hto⟩
     case inr => cases hto
     have c1 : n = m := by simpa using c1
     subst c1
     have c2 := of_decide_eq_true c2
     have c3 := of_decide_eq_true c3
     obtain ⟨kl, hl⟩ := asInt_some hn
     obtain ⟨kc, hc⟩ := asInt_some hm
     have hl := evO_int hT hl
     have hc := evO_int hT hc
     rw [hl, hc]
     obtain ⟨q, rfl⟩ : ∃ q : Nat, n = q := ⟨n.toNat, by omega⟩
     simp only [Int.toNat_natCast] at c3
     have hzs : z.cells.size = u.size := by rw [← Array.length_toList, hzc, zcells_len]
     have hmb : q ≤ maxBytes := Nat.le_trans (Nat.le_mul_of_pos_right q hbpos) c3
     have hrun := run_make (P := P) s.W t e i z hte hi hz kl kc q q (by omega) (by omega) (by rw [hbt, ← Int.natCast_mul, Nat.mul_comm]; unfold maxBytes at c3; omega) (by unfold maxBytes at hmb; omega)
     have hch : ∀ (p : Nat) (x : u.T), (List.replicate (q : Int).toNat u.zero)[p]? = some x → RelD s.W s.I u x (((madeCells z.cells (q * u.size)).toList.drop (p * u.size)).take u.size) := by
      intro p x hp
      have hqn : p < q := by
       have := (List.getElem?_eq_some_iff.1 hp).1
       simpa using this
      have hx : x = u.zero := by
       obtain ⟨_, hx⟩ := List.getElem?_eq_some_iff.1 hp
       rw [← hx]
       simp
      subst hx
      have := made_chunk z.cells q p hqn (by omega)
      rw [hzs] at this
      rw [this, hzc]
      exact RelD.zero _ _ u
     unfold zrow at hto
     split at hto
     ·split at hto
      ·rename_i v0 r0 hund
       split at hto
       ·rename_i hz0
        rw [Int.toNat_natCast] at hto
        obtain ⟨rfl, rfl⟩ := hto
        have hz0 : 0 < v0.size := by simpa [Nat.blt_eq] using hz0
        obtain ⟨hus, huz⟩ := undcd_facts hund
        have hcell : ∀ i, i < q → ∀ j w, (zcells u)[j]? = some w → (madeCells z.cells (q * u.size))[i * (dcd v0 r0).size + j]? = some w := by
         intro i hi j w hj
         have hc := made_chunk z.cells q i hi (by omega)
         rw [hzs, hzc] at hc
         rw [← hc] at hj
         rw [hus]
         rw [List.getElem?_take] at hj
         split at hj
         ·rw [List.getElem?_drop] at hj
          simpa using hj
         ·cases hj
        obtain ⟨t', a1, a2, a3, a4, a5, a6⟩ := newD_ok h hu (hku (key + 1) (by omega) (by omega)) (by omega) hz0 (n := q) (cells := madeCells z.cells (q * u.size)) (by rw [hus]; simp [size_madeCells]) (fun i hi => ⟨zcells r0, RelD.zero _ _ r0, by
         have := hcell i hi 0 (.slice none 0 0) (by rw [huz]; rfl)
         rw [Nat.add_zero] at this
         exact this, fun m w hm => by
         have := hcell i hi (1 + m) w (by rw [huz, Nat.add_comm]; exact hm)
         rw [← Nat.add_assoc] at this
         exact this⟩) e
        refine ⟨t', a1, a2, a3, fun k hk => ?_, .slice (some ⟨s.W.heap.size, 0, none⟩) q q, ?_, a6 (by rw [hus]; simp [size_madeCells])⟩
        ·rcases a4 k hk with hk | rfl | rfl
         ·exact .inl hk
         ·exact .inr (by omega)
         ·exact .inr (by omega)
        ·rw [a5, hrun]
         simp [hsz]
       ·cases hto
      ·cases hto
     ·obtain ⟨rfl, rfl⟩ := hto
      obtain ⟨t', a1, a2, a3, a4, a5, a6⟩ := newRow_ok h (key := key) hu hk hpos (cells := madeCells z.cells (q * u.size)) (by simp [size_madeCells]) hch e
      refine valOk_key a1 a2 a3 a4 ?_ a6
      rw [a5, hrun]
      simp [hsz]
    ·cases hto
   ·cases hto
  ·cases hto
 ·cases hto
theorem sliceArr_ok {t : Nat} {x : Operand} {lo hi mx : Option Operand} {v : V} {H' : HF} (hto : (sliceArr E s.H t (evO T x) lo hi mx).to v H') :
  ValOk B s key ((Instr.sliceAt t (a.eval x) (lo.map a.eval) (hi.map a.eval) (mx.map a.eval)).run P s.W) v H' := by
 unfold sliceArr at hto
 split at hto
 case h_2 => cases hto
 split at hto
 case h_2 => cases hto
 rename_i n u ha
 split at hto
 case h_2 => cases hto
 rename_i k hx
 split at hto
 case h_2 => cases hto
 rename_i m u' xs hc
 split at hto
 case h_2 => cases hto
 rename_i hq
 simp only [Bool.and_eq_true] at hq
 have h1 := of_decide_eq_true hq.1
 have h2 := nat_beq hq.2
 subst h1 h2
 obtain ⟨rfl, rfl⟩ := hto
 obtain ⟨e', b', hta, hea⟩ := hE.aelem t _ _ ha
 obtain ⟨i, z, hi', hsz, _⟩ := hea.info
 obtain ⟨o, cs, t', ex, ho, hb, hr⟩ := pvar_at h (evO_is hT hx) hc
 rw [off_nil] at ho
 injection ho with ho
 subst ho
 have hc := (pv_var hc).1
 obtain ⟨hU, hB, hnI, _⟩ := h.var k _ hc
 simp only [RelC] at hr
 have hx' : Ext B s { s with H := s.H.delVar k, I := fun b => s.I b ∨ b = s.ρ.var k } := {
  i := fun b hb => .inl hb
  inew := fun b hb => by
   rcases hb with hb | rfl
   ·exact .inl hb
   ·exact .inr hB
  w := fun _ _ => .eq rfl rfl
  below := Below.refl _ _
  u := fun _ h => h
  nx := Nat.le_refl _
  var := fun j c _ hj => ⟨c, (delVar_pv hj).2, rfl, rfl⟩
  row := fun j r _ hr => ⟨geo_delVar hr, fun _ _ _ => rfl⟩
  pl := fun _ _ => rfl }
 have hdj : DJ B { s with H := s.H.delVar k, I := fun b => s.I b ∨ b = s.ρ.var k } := by
  refine h.dj.mono hx' (fun j v r xs q ho hj => ⟨(delVar_var hj).2, rfl, rfl⟩) (fun j i b hi ht => ?_) (fun _ _ _ _ => rfl)
  rcases ht with (ht | ht) | ⟨l, d, hl, hb⟩ | ht
  ·exact .inl ht
  ·exact .inr (.inl ⟨k, _, hc, ht.symm⟩)
  ·exact .inr (.inl ⟨l, d, (delVar_var hl).2, hb⟩)
  ·exact .inr (.inr ht)
 refine ⟨{ s with H := s.H.delVar k, I := fun b => s.I b ∨ b = s.ρ.var k }, rfl, ⟨?_, h.bsz, h.un, ?_, ?_, ?_, h.rr, ?_, fun j c hj h1 => h.hk j c (delVar_var hj).2 h1, hdj⟩, hx', fun k hk => .inl hk, .slice (some ⟨s.ρ.var k, 0, none⟩) m m, ?_, ?_⟩
 ·rintro b (hb' | rfl)
  ·exact h.ilt b hb'
  ·exact heap_lt hb
 ·intro j c hj
  have hj : (bif Nat.beq j k then none else s.H.var j) = some c := hj
  cases e : Nat.beq j k with
  | true => rw [e] at hj; cases hj
  | false =>
   rw [e] at hj
   obtain ⟨g1, g2, g3, o, g4, g5⟩ := h.var j c hj
   refine ⟨g1, g2, ?_, o, g4, RelO.ext hx' g5⟩
   rintro (g | g)
   ·exact g3 g
   ·refine h.vv j k c _ ?_ hj hc g
    rintro rfl
    rw [Nat.beq_refl] at e
    cases e
 ·intro j r hj
  obtain ⟨g1, g2, g3⟩ := h.row j r hj
  refine ⟨g1, g2, g3.imp id ?_⟩
  rintro ⟨b, base, cur, td, q1, q2, q3, q4, q5, q6⟩
  refine ⟨b, base, cur, td, q1, q2, fun hw => ⟨(q3 hw).1, ?_⟩, fun hw => .inl (q4 hw), q5, fun i x hi => by
   obtain ⟨c, c1, c2⟩ := q6 i x hi
   exact ⟨c, c1.mono (fun _ h => .inl h) (fun _ _ => rfl), c2⟩⟩
  rintro (g | g)
  ·exact (q3 hw).2 g
  ·exact h.vr k j _ r b base hc hj hw q1 g.symm
 ·intro j l c c' hjl hj hl
  have hj : (bif Nat.beq j k then none else s.H.var j) = some c := hj
  have hl : (bif Nat.beq l k then none else s.H.var l) = some c' := hl
  cases e : Nat.beq j k with
  | true => rw [e] at hj; cases hj
  | false =>
   cases e' : Nat.beq l k with
   | true => rw [e'] at hl; cases hl
   | false => rw [e] at hj; rw [e'] at hl; exact h.vv j l c c' hjl hj hl
 ·intro j l c r b b0 hj hl hw hp
  have hj : (bif Nat.beq j k then none else s.H.var j) = some c := hj
  cases e : Nat.beq j k with
  | true => rw [e] at hj; cases hj
  | false => rw [e] at hj; exact h.vr j l c r b b0 hj hl hw hp
 ·have hs : (sizeOf e').run P s.W = .ok i.size s.W := by simp [sizeOf, typeInfo, hi']
  have hbd : (Instr.sliceBounds false m m none none none).run P s.W = .ok (0, m, m) s.W := by simp [Instr.sliceBounds]
  rw [ex]
  simp only [Option.map_none]
  unfold Instr.sliceAt
  simp [run_underlying hta, Instr.sureAddr, hbd, hs]
  intro hm
  rw [addr_add]
 ·refine .inr ⟨[.slice (some ⟨s.ρ.var k, 0, none⟩) m m], relT_of ?_, rfl⟩
  simp only [RelC, RelD]
  obtain ⟨hl, hlen, hel⟩ := hr
  refine ⟨_, rfl, _, m, by rw [hl], by rw [hl]; exact Nat.le_refl _, fun q x hq => ?_⟩
  have r1 := hel q x hq
  refine ⟨_, _, rfl, .inr rfl, r1.mono (fun _ h => .inl h) (fun _ _ => rfl), r1.len, fun j v hj => ?_⟩
  have hj2 : j < u'.size := by
   have := (List.getElem?_eq_some_iff.1 hj).1
   have := r1.len
   omega
  rw [List.getElem?_take, if_pos hj2, List.getElem?_drop] at hj
  rw [addr_add, cell_at hb, Nat.zero_add, ← Array.getElem?_toList]
  exact hj
theorem slice_ok {t : Nat} {x : Operand} {lo hi mx : Option Operand} {v : V} {H' : HF} (hto : (aop E key T s.H (.slice t x lo hi mx)).to v H') :
  ValOk B s key ((Instr.sliceAt t (a.eval x) (lo.map a.eval) (hi.map a.eval) (mx.map a.eval)).run P s.W) v H' := by
 have of0 : (H' = s.H ∧ ∃ y, (Instr.sliceAt t (a.eval x) (lo.map a.eval) (hi.map a.eval) (mx.map a.eval)).run P s.W = .ok y s.W ∧ RelV s v y) → ValOk B s key ((Instr.sliceAt t (a.eval x) (lo.map a.eval) (hi.map a.eval) (mx.map a.eval)).run P s.W) v H' := by
  rintro ⟨rfl, y, h1, h2⟩
  exact ValOk.same h h1 h2
 have opt : ∀ (q : Option Operand) (d m : Int), optInt T q d = some m → (q.map a.eval = none ∧ m = d) ∨ ∃ k, q.map a.eval = some (.int k m) := by
  intro q d m hq
  cases q with
  | none => injection hq with hq; exact .inl ⟨rfl, hq.symm⟩
  | some o =>
   obtain ⟨k, hk⟩ := asInt_some hq
   exact .inr ⟨k, by rw [Option.map_some, evO_int hT hk]⟩
 simp only [aop] at hto
 split at hto
 ·rename_i u hut
  obtain ⟨e, hte, he⟩ := hE.elem t u hut
  split at hto
  ·rename_i n hn
   split at hto
   ·rename_i hz
    split at hto
    ·rename_i l hl
     split at hto
     ·rename_i h' hh
      split at hto
      ·exact of0 (cutV_ok hte he (evO_rel hT x) hn hz hto _ _ _ (opt _ _ _ hl) (opt _ _ _ hh) (.inl ⟨rfl, rfl⟩))
      ·rename_i m
       split at hto
       ·rename_i hi' m' hm'
        rcases hto with ⟨c1, hto⟩ | ⟨_, hto⟩
        case inr => cases hto
        have c1 : h' = m' := by simpa using c1
        subst c1
        obtain ⟨km, hkm⟩ := asInt_some hm'
        have e1 := evO_int hT hkm
        obtain ⟨kh, hkh⟩ := asInt_some (show asInt (evO T hi') = some h' from hh)
        have e2 := evO_int hT hkh
        exact of0 (cutV_ok hte he (evO_rel hT x) hn hz hto _ _ _ (opt _ _ _ hl) (opt _ _ _ hh) (.inr ⟨rfl, ⟨km, by rw [Option.map_some, e1]⟩, kh, by rw [Option.map_some, e2]⟩))
       ·cases hto
     ·cases hto
    ·cases hto
   ·cases hto
  ·cases hto
 ·cases hto
theorem aop_ok {o : Oper} {v : V} {H' : HF} (hto : (aop E key T s.H o.op).to v H') : OpOk B s key ((execOp a.eval o).run P s.W) v H' := by
 obtain ⟨dst, op, ty, ps, aft, grd⟩ := o
 cases op with
 | move x => obtain ⟨rfl, rfl⟩ := hto; exact OpOk.same h rfl (evO_rel hT x)
 | assign x => obtain ⟨rfl, rfl⟩ := hto; exact OpOk.same h rfl (evO_rel hT x)
 | pick c p q =>
  simp only [aop] at hto
  split at hto
  ·rename_i b hb
   have e := evO_bool hT hb
   rcases hto with ⟨rfl, rfl, rfl⟩ | ⟨rfl, rfl, rfl⟩
   ·exact OpOk.same h (by simp [execOp, e, asBool]) (evO_rel hT p)
   ·exact OpOk.same h (by simp [execOp, e, asBool]) (evO_rel hT q)
  ·cases hto
 | alloc t => exact .ofVal (alloc_ok hE h hu hk hku hkn hT hto)
 | box t x => exact .ofVal (box_ok hE h hu hk hku hkn hT hto)
 | build t ps => exact .ofVal (build_ok hE h hu hk hku hkn hT hto)
 | buildSlice t n ps => exact .ofVal (buildSlice_ok hE h hu hk hku hkn hT hto)
 | makeSlice t l c => exact .ofVal (makeSlice_ok hE h hu hk hku hkn hT hto)
 | load t x => exact .ofVal0 h (loadV_ok hE h (evO_rel hT x) hto)
 | store t p x =>
  obtain ⟨rfl, t', h1, h2, h3, h4, h5⟩ := storeV_ok hE h hkn hku (evO_rel hT p) (evO_rel hT x) hto
  refine ⟨t', h1, h2, h3, h4, .inr ⟨?_, rfl⟩⟩
  simp [execOp, h5]
 | nilCheck x =>
  simp only [aop] at hto
  split at hto
  ·rename_i k p hx
   split at hto
   ·rename_i c hc
    obtain ⟨rfl, rfl⟩ := hto
    have hr := evO_is hT hx
    obtain ⟨o, cs, t', e, _⟩ := pvar_at h hr hc
    exact OpOk.same h (x := a.eval x) (by simp only [execOp, e]; rfl) hr
   ·cases hto
  ·rename_i k i p hx
   split at hto
   ·rename_i r hrow
    obtain ⟨rfl, rfl⟩ := hto
    have hr := evO_is hT hx
    obtain ⟨b, base, o, cur, t', c, e, _⟩ := prow_at h hr hrow
    exact OpOk.same h (x := a.eval x) (by simp only [execOp, e]; rfl) hr
   ·cases hto
  ·rename_i u y hx
   obtain ⟨rfl, rfl⟩ := hto
   have hr := evO_is hT hx
   obtain ⟨ad, c, e, _⟩ := pdeep_at hr
   exact OpOk.same h (x := a.eval x) (by simp only [execOp, e]; rfl) hr
  ·rename_i f p q hx
   split at hto
   case h_2 => cases hto
   rename_i hnY
   obtain ⟨rfl, rfl⟩ := hto
   have hr := evO_is hT hx
   obtain ⟨cs, h1, h2⟩ := hr.get (by intro h; cases h) (by intro w h; cases h) hnY
   simp only [RelC] at h1
   rcases h1 with ⟨_, X, rfl, _⟩ | ⟨l, m, rfl, _, _⟩
   ·have e := isVal_one h2 rfl
    exact OpOk.same h (x := a.eval x) (by simp only [execOp, e]; rfl) hr
   ·have e := isVal_one h2 rfl
    exact OpOk.same h (x := a.eval x) (by simp only [execOp, e]; rfl) hr
  ·cases hto
 | binOp op t x y c =>
  obtain ⟨rfl, h1, z, h2, h3⟩ := binV_ok hE h (evO_rel hT x) (evO_rel hT y) x y hto
  exact OpOk.same h (by simp [execOp, h1, h2]) h3
 | unOp op t x => exact .ofVal0 h (unV_ok (evO_rel hT x) hto)
 | convert src dst' x =>
  simp only [aop] at hto
  split at hto
  ·rename_i k n hx
   split at hto
   ·rename_i k1 h1
    split at hto
    ·rename_i k2 h2
     obtain ⟨rfl, rfl⟩ := hto
     have e := evO_int hT hx
     have u1 := hE.int _ _ h1
     have u2 := hE.int _ _ h2
     refine OpOk.same h (x := .int k2 (k2.wrap n)) ?_ int_relV
     simp [execOp, convert, e, run_underlying u1, run_underlying u2, Conv.intToInt]
    ·cases hto
   ·cases hto
  ·split at hto
   ·rename_i hb
    cases hxs : deepen s.H (.sl (.int .u8)) (evO T x) with
    | none => rw [hxs] at hto; cases hto
    | some xs =>
     rw [hxs] at hto
     obtain ⟨rfl, rfl⟩ := hto
     simp only [Bool.and_eq_true] at hb
     obtain ⟨e, he1, he2⟩ := hE.byt _ hb.1
     have hd := hE.str _ hb.2
     refine OpOk.same h (x := .string (strN xs)) ?_ str_relV
     simp [execOp, conv_str (P := P) (src := src) (dst := dst') h hxs (evO_rel hT x) he1 he2 hd]
   ·cases hto
 | makeFunc f p q =>
  cases f with
  | func f =>
   simp only [aop] at hto
   split at hto
   ·rename_i hc
    obtain ⟨rfl, rfl⟩ := hto
    simp only [Bool.and_eq_true] at hc
    refine OpOk.same h (x := .func (.func f) (p.map a.eval) (q.map a.eval)) rfl (.inr ⟨[_], relT_of ?_, rfl⟩)
    simp only [RelC]
    refine .inr ⟨p.toList.map a.eval, q.toList.map a.eval, ?_, listV_rel hT _ hc.1, listV_rel hT _ hc.2⟩
    rw [← Array.toList_map, ← Array.toList_map]
   ·cases hto
  | _ => simp only [aop] at hto; cases hto
 | makeInterface t x =>
  simp only [aop] at hto
  split at hto
  ·rename_i hc
   obtain ⟨rfl, rfl⟩ := hto
   simp only [Bool.and_eq_true] at hc
   obtain ⟨d, hd, hi⟩ := hE.conc t hc.1
   obtain ⟨cs, h1, h2⟩ := (evO_rel hT x).get (cell_not hc.2).1 (cell_not hc.2).2 (cell_noY hc.2)
   refine OpOk.same h (x := .iface t (a.eval x)) ?_ (.inr ⟨[_], relT_of ?_, rfl⟩)
   ·have : (Instr.makeInterface t (a.eval x)).run P s.W = .ok (.iface t (a.eval x)) s.W := by
     unfold Instr.makeInterface
     simp only [Sem.run_bind, run_underlying hd, Result.andThen_ok]
     cases d <;> simp [isIfc] at hi <;> rfl
    simp [execOp, this]
   ·simp only [RelC]
    refine .inl ⟨trivial, a.eval x, rfl, ?_⟩
    simp only [RelL]
    exact ⟨_, _, cs, rfl, h1, h2, rfl⟩
  ·cases hto
 | typeAssert x xt t ok =>
  simp only [aop] at hto
  split at hto
  ·rename_i f v hx
   split at hto
   ·rename_i hc
    simp only [Bool.and_eq_true] at hc
    have hf := (nat_beq hc.1).symm
    subst hf
    obtain ⟨d, hd, hi⟩ := hE.conc _ hc.2
    obtain ⟨cs, h1, h2⟩ := (evO_is hT hx).get (by intro h; cases h) (by intro w h; cases h)
    obtain ⟨X, cx, rfl, hr, hX⟩ := relC_ifc h1
    have e := isVal_one h2 rfl
    have run : (Instr.typeAssert (a.eval x) xt t ok).run P s.W = .ok (if ok then .tuple #[X, .bool true] else X) s.W := by
     rw [e]
     unfold Instr.typeAssert
     simp only [Sem.run_bind, run_underlying hd, Result.andThen_ok]
     cases d <;> simp [isIfc] at hi <;> simp
    have hv : RelV1 s v X := .inr ⟨cx, relT_of hr, hX⟩
    cases ok with
    | true =>
     obtain ⟨rfl, rfl⟩ := hto
     refine OpOk.same h (x := .tuple #[X, .bool true]) (by simp [execOp, run]) ⟨[X, .bool true], rfl, X, _, rfl, hv, .bool true, [], rfl, ?_, rfl⟩
     exact .inr ⟨[.bool true], relT_of (v := .d .bool true) (by simp only [RelC]; rfl), rfl⟩
    | false =>
     obtain ⟨rfl, rfl⟩ := hto
     refine OpOk.same h (x := X) (by simp [execOp, run]) ?_
     exact hv.toV
   ·cases hto
  ·cases hto
 | slice t x lo hi mx => exact .ofVal (slice_ok hE h hu hk hku hkn hT hto)
 | fieldAddr t x f => exact .ofVal0 h (fieldV_ok hE h (evO_rel hT x) hto)
 | field t x f =>
  simp only [aop] at hto
  split at hto
  ·rename_i w hw
   split at hto
   ·rename_i o ho
    split at hto
    ·rename_i o' n g hf
     split at hto
     ·rename_i hq
      obtain ⟨rfl, rfl⟩ := hto
      simp only [Bool.and_eq_true, beq_iff_eq] at hq
      obtain ⟨⟨⟨h1, h2⟩, h3⟩, h4⟩ := hq
      have h1 := nat_beq h1
      have h2 := nat_beq h2
      subst h1
      obtain ⟨y, y1, y2⟩ := field_ok hE (evO_rel hT x) hw ho hf h2 h3 h4
      exact .ofVal0 h ⟨rfl, y, y1, y2⟩
     ·cases hto
    ·cases hto
   ·cases hto
  ·cases hto
 | indexAddr t x i =>
  simp only [aop] at hto
  split at hto
  ·rename_i n hn
   obtain ⟨k, hk'⟩ := asInt_some hn
   have e := evO_int hT hk'
   have := indexV_ok hE h (k := k) (evO_rel hT x) hto
   rw [← e] at this
   exact .ofVal0 h this
  ·cases hto
 | index t x i =>
  simp only [aop] at hto
  split at hto
  ·rename_i n hn
   obtain ⟨k, hk'⟩ := asInt_some hn
   have e := evO_int hT hk'
   split at hto
   ·rename_i m u ha
    split at hto
    ·rename_i n' u' xs hx
     split at hto
     ·rename_i hq
      simp only [Bool.and_eq_true] at hq
      have h1 := of_decide_eq_true hq.1
      have h2 := nat_beq hq.2
      subst h1 h2
      obtain ⟨g1, g2, rfl, rfl⟩ := within_to hto
      obtain ⟨e', b, hta, hea⟩ := hE.aelem t _ _ ha
      obtain ⟨y, y1, y2⟩ := index_ok hta hea (evO_is hT hx) (k := k) g1 g2
      rw [← e] at y1
      exact .ofVal0 h ⟨rfl, y, y1, y2⟩
     ·cases hto
    ·split at hto
     ·rename_i hq
      simp only [Bool.and_eq_true] at hq
      have h1 := of_decide_eq_true hq.1
      have h2 := of_decide_eq_true hq.2
      subst h1
      obtain ⟨e', b, hta, hea⟩ := hE.aelem t _ _ ha
      obtain ⟨rfl, y, y1, y2⟩ := indexFn_ok hta hea (evO_rel hT x) h2 (k := k) hto
      rw [← e] at y1
      exact .ofVal0 h ⟨rfl, y, y1, y2⟩
     ·cases hto
   ·split at hto
    ·rename_i hst
     split at hto
     ·rename_i str hs
      obtain ⟨g1, g2, rfl, rfl⟩ := within_to hto
      have hx : x = .const (.string str) := by
       unfold strOf at hs
       split at hs
       ·injection hs with hs; rw [hs]
       ·cases hs
      subst hx
      have hu := hE.str t hst
      have g3 : n.toNat < str.size := by omega
      have g4 : str[n.toNat]? = some (str.data.toList.getD n.toNat 0) := by
       have h1 : str.data.size = str.size := rfl
       rw [List.getD_eq_getElem?_getD, Array.getElem?_toList, Array.getElem?_eq_getElem (by omega : n.toNat < str.data.size)]
       rw [getElem?_pos str n.toNat g3]
       rfl
      have ev : a.eval (.const (.string str)) = .string str := rfl
      refine .ofVal0 h ⟨rfl, .int .u8 (str.data.toList.getD n.toNat 0).toNat, ?_, int_relV⟩
      simp [Instr.index, asIntOf, e, ev, run_underlying hu, g1, g4]
     ·cases hto
    ·cases hto
  ·cases hto
 | makeMap t r =>
  simp only [aop] at hto
  split at hto
  case h_2 => cases hto
  rename_i u ht
  split at hto
  case h_2 => cases hto
  rename_i n hn
  obtain ⟨rfl, rfl⟩ := hto
  obtain ⟨t', a1, a2, a3, a4, a5, a6⟩ := makeMap_ok hE h hu hk ht
  refine .ofVal (valOk_key a1 a2 a3 a4 (x := .map (some s.W.heap.size)) ?_ a6)
  rw [a5]
  obtain ⟨_, kt, et, hmt, _⟩ := hE.mp t _ ht
  cases r with
  | none => simp [Instr.makeMap]
  | some x =>
   obtain ⟨k, hx⟩ := asInt_some hn
   have e := evO_int hT hx
   simp [Instr.makeMap, e, run_underlying hmt, Go.asInt, asIntOf, Result.andThen]
 | lookup t x i ok =>
  simp only [aop] at hto
  split at hto
  case h_2 => cases hto
  rename_i n hn
  have e := evO_int hT (asI64_some hn)
  have := lookupV_ok hE h (evO_rel hT x) hto
  rw [← e] at this
  exact .ofVal0 h this
 | mapUpdate t m k x =>
  simp only [aop] at hto
  split at hto
  case h_2 => cases hto
  rename_i n hn
  have e := evO_int hT (asI64_some hn)
  obtain ⟨rfl, t', h1, h2, h3, h4, h5⟩ := updateV_ok hE h (evO_rel hT m) (evO_rel hT x) hto
  rw [← e] at h5
  refine ⟨t', h1, h2, h3, fun k hk => .inl (h4 k hk), .inr ⟨?_, rfl⟩⟩
  simp [execOp, h5]
 | insert t m k x =>
  simp only [aop] at hto
  split at hto
  case h_2 => cases hto
  rename_i n hn
  have e := evO_int hT (asI64_some hn)
  obtain ⟨rfl, t', h1, h2, h3, h4, h5⟩ := updateV_ok hE h (evO_rel hT m) (evO_rel hT x) hto
  rw [← e] at h5
  refine ⟨t', h1, h2, h3, fun k hk => .inl (h4 k hk), .inr ⟨?_, rfl⟩⟩
  simp [execOp, h5]
 | extract x i =>
  simp only [aop] at hto
  split at hto
  ·rename_i vs hx
   split at hto
   ·rename_i w hw
    obtain ⟨rfl, rfl⟩ := hto
    obtain ⟨l, e, hl⟩ := evO_is hT hx
    obtain ⟨y, h1, h2⟩ := nth_ok hw hl
    refine OpOk.same h (x := y) ?_ h2.toV
    simp [execOp, Instr.extract, e, h1]
   ·cases hto
  ·cases hto
 | _ => simp only [aop] at hto; cases hto
theorem aopS_ok {o : Oper} {v : V} {H' : HF} (hto : (aopS E key T s.H o.op).to v H') : OpOk B s key ((execOp a.eval o).run P s.W) v H' := by
 unfold aopS at hto
 split at hto
 ·rename_i t x lo hi mx ho
  split at hto
  ·exact aop_ok hE h hu hk hku hkn hT hto
  ·have : execOp a.eval o = (do pure (.value (← Instr.sliceAt t (a.eval x) (lo.map a.eval) (hi.map a.eval) (mx.map a.eval))) : Sem Next) := by simp only [execOp, ho]
   rw [this]
   exact .ofVal (sliceArr_ok hE h hu hk hku hkn hT hto)
 ·exact aop_ok hE h hu hk hku hkn hT hto
end
end Go.Proofs.YtdokfjkihjkcmaaGreatDoor.Den

/- Parts of rows of one's own, turned at once: clear, copy. -/
namespace Go.Proofs.YtdokfjkihjkcmaaGreatDoor.Den
open Go Go.RowKit
set_option linter.unusedVariables false
set_option linter.unusedSectionVars false
theorem seg_len {α : Type} {xs ys : List α} {o : Nat} (h : o + ys.length ≤ xs.length) : (segSet xs o ys).length = xs.length := by
 simp [segSet]; omega
theorem seg_get {α : Type} {xs ys : List α} {o : Nat} (h : o + ys.length ≤ xs.length) (j : Nat) : (segSet xs o ys)[j]? = if o ≤ j ∧ j < o + ys.length then ys[j - o]? else xs[j]? := by
 unfold segSet
 by_cases h1 : j < o
 ·rw [if_neg (by omega), List.append_assoc, List.getElem?_append_left (by simp; omega), List.getElem?_take, if_pos h1]
 ·by_cases h2 : j < o + ys.length
  ·rw [if_pos (by omega), List.append_assoc, List.getElem?_append_right (by simp; omega), List.getElem?_append_left (by simp; omega)]
   congr 1
   simp; omega
  ·rw [if_neg (by omega), List.getElem?_append_right (by simp; omega), List.getElem?_drop]
   congr 1
   simp; omega
theorem seg_nil {α : Type} {xs : List α} {o : Nat} : segSet xs o [] = xs := by simp [segSet]
theorem setRow_same {H : HF} {k : Nat} {r : Row} (h : H.row k = some r) (hw : r.w = true) : H.setRow k ⟨r.u, r.xs, true⟩ = H := by
 obtain ⟨u, xs, w⟩ := r
 simp only at hw
 subst hw
 unfold HF.setRow
 cases H with
 | mk v rw n =>
  simp only at h ⊢
  congr 1
  funext i
  by_cases e : i = k
  ·subst e
   simp [h]
  ·simp [nbeq e]
theorem segPut {P : Program} {B : Nat} {s : S4} (h : MemOk B s) {k : Nat} {r : Row} (hr : s.H.row k = some r) (hw : r.w = true) {o n : Nat} {A : Option Addr} {c : Nat} (hx : RowV s.W (s.ρ.row k) r.u.size o n (.slice A n c)) (hon : o + n ≤ r.xs.length)
  {ys : List r.u.T} (hy : ys.length ≤ n) (hpos : 0 < ys.length) {vs : List Value} (hvl : vs.length = ys.length * r.u.size) (hv : ∀ (i : Nat) (y : r.u.T), ys[i]? = some y → RelD s.W s.I r.u y ((vs.drop (i * r.u.size)).take r.u.size)) (h1 : ∀ v ∈ vs, v.oneCell' = true) :
  ∃ a t, A = some a ∧ (storeCells a vs).run P s.W = .ok () t.W ∧ t.H = s.H.setRow k ⟨r.u, segSet r.xs o ys, true⟩ ∧ MemOk B t ∧ Ext B s t ∧ t.U = s.U := by
 obtain ⟨A', cap, e, hnc, hcap⟩ := hx
 injection e with e1 e2 e3
 subst e1 e3
 obtain ⟨_, hz, h3⟩ := h.row k r hr
 rcases hcap with hc | ⟨b, base, hp, hA, hs⟩
 ·omega
 rcases h3 with h3 | ⟨b', base', cur, t, e, hh, _, _, hsz, hel⟩
 ·rw [h3.2] at hp; cases hp
 have he := e
 rw [hp] at he
 injection he with he
 injection he with e1 e2
 subst e1 e2
 have hm1 : (o + ys.length) * r.u.size ≤ r.xs.length * r.u.size := Nat.mul_le_mul_right _ (by omega)
 rw [Nat.add_mul] at hm1
 obtain ⟨W', hrun, hws⟩ := run_storeCells_at P (b := b) (o := base + o * r.u.size) vs 0 s.W cur hh (by omega) h1
 have hws : WSet s.W W' b (splice cur.toList (base + o * r.u.size) vs).toArray := by simpa using hws
 have hl := seg_len (xs := r.xs) (ys := ys) (o := o) (by omega)
 refine ⟨_, s.putRow W' k ⟨r.u, segSet r.xs o ys, true⟩, hA, hrun, rfl, ?_, ext_putRow h hr hw hp hl hws, rfl⟩
 refine memOk_putRow h hr hw hp hl hws (fun j x hj => ?_)
 rw [seg_get (by omega)] at hj
 by_cases hjs : o ≤ j ∧ j < o + ys.length
 ·rw [if_pos hjs] at hj
  have hr' := hv _ x hj
  refine ⟨_, hr', fun q w hq => ?_⟩
  have hq' : q < r.u.size := by
   have := (List.getElem?_eq_some_iff.1 hq).1
   rw [hr'.len] at this
   exact this
  rw [List.getElem?_take, if_pos hq', List.getElem?_drop] at hq
  have e1 : j * r.u.size = o * r.u.size + (j - o) * r.u.size := by
   rw [← Nat.add_mul, Nat.add_sub_cancel' hjs.1]
  have e2 : (j - o + 1) * r.u.size ≤ ys.length * r.u.size := Nat.mul_le_mul_right _ (by omega)
  rw [Nat.succ_mul] at e2
  rw [List.getElem?_toArray, splice_get (by simp; omega), if_pos (by omega)]
  rw [show base + j * r.u.size + q - (base + o * r.u.size) = (j - o) * r.u.size + q by omega]
  exact hq
 ·rw [if_neg hjs] at hj
  obtain ⟨c2, hc2, hcc2⟩ := hel j x hj
  refine ⟨c2, hc2, fun q w hq => ?_⟩
  have hq' : q < r.u.size := by
   have := (List.getElem?_eq_some_iff.1 hq).1
   rw [hc2.len] at this
   exact this
  have := hcc2 q w hq
  rw [List.getElem?_toArray, splice_get (by simp; omega), if_neg]
  ·simpa using this
  ·rintro ⟨q1, q2⟩
   rcases Nat.lt_or_ge j o with hlt | hge
   ·have : (j + 1) * r.u.size ≤ o * r.u.size := Nat.mul_le_mul_right _ hlt
    rw [Nat.succ_mul] at this
    omega
   ·have : (o + ys.length) * r.u.size ≤ j * r.u.size := Nat.mul_le_mul_right _ (by omega)
    rw [Nat.add_mul] at this
    omega
theorem zero_chunk {u : U} {n i : Nat} (hi : i < n) (W : World) (I : Nat → Prop) : RelD W I u u.zero (((List.replicate n (zcells u)).flatten.drop (i * u.size)).take u.size) := by
 have := chunk_replicate (zcells u) n i hi
 rw [zcells_len] at this
 rw [this]
 exact RelD.zero W I u
theorem zeroCells_eq {z : Array Value} {u : U} (hz : z.toList = zcells u) (hp : 0 < u.size) (n : Nat) : (Builtin.zeroCells z n).toList = (List.replicate n (zcells u)).flatten := by
 have hs : z.size = u.size := by rw [← Array.length_toList, hz, zcells_len]
 apply List.ext_getElem?
 intro q
 unfold Builtin.zeroCells
 by_cases hq : q < n * u.size
 ·have h1 : q / u.size < n := by rw [Nat.div_lt_iff_lt_mul hp]; exact hq
  have h2 := chunk_replicate (zcells u) n (q / u.size) h1
  rw [zcells_len] at h2
  have h3 := congrArg (fun l => l[q % u.size]?) h2
  simp only [List.getElem?_take, if_pos (Nat.mod_lt q hp), List.getElem?_drop] at h3
  rw [show q / u.size * u.size + q % u.size = q by rw [Nat.mul_comm]; exact Nat.div_add_mod q u.size] at h3
  rw [h3, ← hz]
  have hm : q % u.size < z.size := by rw [hs]; exact Nat.mod_lt q hp
  simp [hs, hq]
  rw [getElem!_pos z (q % u.size) (by omega), Array.getElem?_eq_getElem (by omega)]
 ·rw [List.getElem?_eq_none (by simp [hs]; omega), List.getElem?_eq_none]
  have : ((List.replicate n (zcells u)).flatten).length = n * u.size := by simp [List.length_flatten, zcells_len]
  omega
theorem run_clear_slice {P : Program} {W : World} {t ty e : TypeId} {i : TypeInfo} {z : Value} (ht : P.underlying t = some (.slice e)) (hi : P.info? e = some i) (hz : i.zero = some z) (a : Addr) (n c : Nat) (hn : 0 < n) :
  (Builtin.clear_ #[t] ty #[.slice (some a) n c]).run P W = ((do storeCells a (Builtin.zeroCells z.cells n).toList; pure (.tuple #[])) : Sem Value).run P W := by
 obtain ⟨m, rfl⟩ : ∃ m, n = m + 1 := ⟨n - 1, by omega⟩
 simp [Builtin.clear_, run_underlying ht, run_zero hi hz]
theorem run_clear_none {P : Program} {W : World} {t ty e : TypeId} (ht : P.underlying t = some (.slice e)) (A : Option Addr) (n c : Nat) (hn : n = 0 ∨ A = none) :
  (Builtin.clear_ #[t] ty #[.slice A n c]).run P W = .ok (.tuple #[]) W := by
 rcases hn with rfl | rfl
 ·cases A <;> simp [Builtin.clear_, run_underlying ht]
 ·simp [Builtin.clear_, run_underlying ht]
theorem seg_of {s : S4} {v : V} {x : Value} (hx : RelV s v x) {k : Nat} {r : Row} (hr : s.H.row k = some r) :
  (v = .row k → ∃ A c, x = .slice A r.xs.length c ∧ RowV s.W (s.ρ.row k) r.u.size 0 r.xs.length (.slice A r.xs.length c)) ∧
  (∀ o n, v = .rsub k o n → ∃ A c, x = .slice A n c ∧ o + n ≤ r.xs.length ∧ RowV s.W (s.ρ.row k) r.u.size o n (.slice A n c)) := by
 constructor
 ·rintro rfl
  have h := (relV_row hx).2.2 r hr
  have h' := h
  obtain ⟨A, c, rfl, _⟩ := h
  exact ⟨A, c, rfl, h'⟩
 ·rintro o n rfl
  obtain ⟨h0, h⟩ := (relV_rsub hx).2.2 r hr
  have h' := h
  obtain ⟨A, c, rfl, _⟩ := h
  exact ⟨A, c, rfl, h0, h'⟩
theorem clear_seg {P : Program} {B : Nat} {s : S4} (h : MemOk B s) {t ty e : TypeId} {u : U} {bytes : Nat} (ht : P.underlying t = some (.slice e)) (he : ElemFact P e u bytes) {key : Nat} {k : Nat} {r : Row} (hr : s.H.row k = some r) (hw : r.w = true) (hu : r.u = u) {o n : Nat} {A : Option Addr} {c : Nat}
  (hx : RowV s.W (s.ρ.row k) r.u.size o n (.slice A n c)) (hon : o + n ≤ r.xs.length) :
  ValOk B s key ((Builtin.clear_ #[t] ty #[.slice A n c]).run P s.W) (.tup .nil) (s.H.setRow k ⟨r.u, segSet r.xs o (List.replicate n r.u.zero), true⟩) := by
 subst hu
 obtain ⟨i, z, hi, hsz, hbt, hz, hzc⟩ := he.info
 obtain ⟨_, hzp, _⟩ := h.row k r hr
 rcases Nat.eq_zero_or_pos n with rfl | hn
 ·refine ⟨s, by rw [List.replicate_zero, seg_nil, setRow_same hr hw], h, Ext.refl B s, fun k hk => .inl hk, _, run_clear_none ht _ _ _ (.inl rfl), ?_⟩
  exact ⟨[], rfl, rfl⟩
 ·obtain ⟨a, t', rfl, hrun, hH, hm, hx', hU⟩ := segPut (P := P) h hr hw hx hon (ys := List.replicate n r.u.zero) (by simp) (by simpa using hn) (vs := (List.replicate n (zcells r.u)).flatten) (by simp [List.length_flatten, zcells_len])
   (fun j y hj => by
    have hjn : j < n := by
     have := (List.getElem?_eq_some_iff.1 hj).1
     simpa using this
    rw [List.getElem?_replicate, if_pos hjn] at hj
    injection hj with hj
    subst hj
    exact zero_chunk hjn s.W s.I)
   (fun v hv => by
    obtain ⟨l, hl, hv⟩ := List.mem_flatten.1 hv
    rw [List.mem_replicate] at hl
    rw [hl.2] at hv
    exact (RelD.zero s.W s.I r.u).one v hv)
  refine ⟨t', hH, hm, hx', fun q hq => .inl (by rw [hU] at hq; exact hq), .tuple #[], ?_, ⟨[], rfl, rfl⟩⟩
  rw [run_clear_slice ht hi hz a n c hn, zeroCells_eq hzc hzp]
  simp [hrun]
theorem clearV_ok {P : Program} {B : Nat} {s : S4} (h : MemOk B s) {t ty e : TypeId} {u : U} {bytes : Nat} (ht : P.underlying t = some (.slice e)) (he : ElemFact P e u bytes) {key : Nat} (hk : key < s.H.nx) {v v' : V} {x : Value} {H' : HF} (hx : RelV s v x) (hto : (clearV s.H u v).to v' H') :
  ValOk B s key ((Builtin.clear_ #[t] ty #[x]).run P s.W) v' H' := by
 unfold clearV at hto
 split at hto
 ·obtain ⟨rfl, rfl⟩ := hto
  obtain ⟨cs, h1, h2⟩ := hx.get (by intro h; cases h) (by intro w h; cases h)
  simp only [RelC] at h1
  subst h1
  have h2 := isVal_one h2 rfl
  subst h2
  exact ValOk.same h (run_clear_none ht _ _ _ (.inr rfl)) ⟨[], rfl, rfl⟩
 ·rename_i k
  split at hto
  ·rename_i r hr
   split at hto
   ·rename_i hq
    simp only [Bool.and_eq_true, decide_eq_true_eq] at hq
    obtain ⟨rfl, rfl⟩ := hto
    obtain ⟨A, c, rfl, hv⟩ := (seg_of hx hr).1 rfl
    exact clear_seg h ht he hr hq.1 hq.2 hv (by omega)
   ·cases hto
  ·cases hto
 ·rename_i k o n
  split at hto
  ·rename_i r hr
   split at hto
   ·rename_i hq
    simp only [Bool.and_eq_true, decide_eq_true_eq] at hq
    obtain ⟨rfl, rfl⟩ := hto
    obtain ⟨A, c, rfl, hon, hv⟩ := (seg_of hx hr).2 o n rfl
    exact clear_seg h ht he hr hq.1 hq.2 hv hon
   ·cases hto
  ·cases hto
 ·cases hto
theorem run_copy_some {P : Program} {W W' : World} {t t' ty e : TypeId} {i : TypeInfo} (ht : P.underlying t = some (.slice e)) (hi : P.info? e = some i) (a ad : Addr) (n c m cy : Nat) (news : List Value) (hl : news.length = (Nat.min m n) * i.size) (hnews : ∀ j v, news[j]? = some v → W.cell? (ad.add j) = some v)
  (hs : (storeCells a news).run P W = .ok () W') :
  (Builtin.copy_ #[t, t'] ty #[.slice (some a) n c, .slice (some ad) m cy]).run P W = .ok (goInt (Nat.min m n)) W' := by
 have hf : (Builtin.firstCells i.size (Nat.min m n) (.slice (some ad) m cy)).run P W = .ok news.toArray W := by
  simp only [Builtin.firstCells]
  rw [← hl]
  exact run_loadCells P W ad news hnews
 simp [Builtin.copy_, run_underlying ht, sizeOf, typeInfo, hi, Builtin.lenOf, hf, hs]
theorem run_copy_zero {P : Program} {W : World} {t t' ty e : TypeId} {i : TypeInfo} (ht : P.underlying t = some (.slice e)) (hi : P.info? e = some i) (A Ay : Option Addr) (n c m cy : Nat) (h0 : Nat.min m n = 0) :
  (Builtin.copy_ #[t, t'] ty #[.slice A n c, .slice Ay m cy]).run P W = .ok (goInt 0) W := by
 cases Ay <;> cases A <;> simp [Builtin.copy_, run_underlying ht, sizeOf, typeInfo, hi, Builtin.lenOf, Builtin.firstCells, h0, loadCells, loadCellsFrom, storeCells]
theorem copy_seg {P : Program} {B : Nat} {s : S4} (h : MemOk B s) {t t' ty e : TypeId} {bytes : Nat} {k : Nat} {r : Row} (ht : P.underlying t = some (.slice e)) (he : ElemFact P e r.u bytes) {key : Nat} (hr : s.H.row k = some r) (hw : r.w = true) {o n : Nat} {A : Option Addr} {c : Nat}
  (hx : RowV s.W (s.ρ.row k) r.u.size o n (.slice A n c)) (hon : o + n ≤ r.xs.length) {v : V} {y : Value} (hy : RelV s v y) {zs : List r.u.T} (hd : deepen s.H (.sl r.u) v = some zs) :
  ValOk B s key ((Builtin.copy_ #[t, t'] ty #[.slice A n c, y]).run P s.W) (.d (.int .i64) ((zs.take n).length : Int)) (s.H.setRow k ⟨r.u, segSet r.xs o (zs.take n), true⟩) := by
 obtain ⟨i, z, hi, hsz, hz, hzc⟩ := he.info
 obtain ⟨_, hzp, _⟩ := h.row k r hr
 obtain ⟨Ay, cy, rfl, _⟩ := slD_form (sl_of_deepen h hy hd)
 have hmin : (zs.take n).length = Nat.min zs.length n := by rw [List.length_take]; exact Nat.min_comm _ _
 rcases Nat.eq_zero_or_pos (Nat.min zs.length n) with h0 | hn
 ·have hnil : zs.take n = [] := List.eq_nil_of_length_eq_zero (by rw [hmin]; exact h0)
  refine ⟨s, by rw [hnil, seg_nil, setRow_same hr hw], h, Ext.refl B s, fun k hk => .inl hk, _, run_copy_zero ht hi _ _ _ _ _ _ h0, ?_⟩
  rw [hnil]
  exact int_relV
 ·have hzl : 0 < zs.length := Nat.lt_of_lt_of_le hn (Nat.min_le_left _ _)
  have hle := Nat.min_le_left zs.length n
  obtain ⟨ad, news, rfl, hnl, hcells, hel⟩ := sl_elems h hy hd rfl hzl
  have hml : (Nat.min zs.length n) * r.u.size ≤ zs.length * r.u.size := Nat.mul_le_mul_right _ hle
  have hone : ∀ w ∈ news, w.oneCell' = true := news_one hnl (fun i x hi => hel i x hi)
  obtain ⟨a, t1, rfl, hrun, hH, hm, hx', hU⟩ := segPut (P := P) h hr hw hx hon (ys := zs.take n) (by rw [hmin]; exact Nat.min_le_right _ _) (by rw [hmin]; exact hn) (vs := news.take ((Nat.min zs.length n) * r.u.size)) (by rw [List.length_take, hmin]; omega)
   (fun j y hj => by
    have hjn : j < Nat.min zs.length n := by
     have := (List.getElem?_eq_some_iff.1 hj).1
     rw [hmin] at this
     exact this
    have hj' : zs[j]? = some y := by
     rw [List.getElem?_take] at hj
     split at hj
     ·exact hj
     ·cases hj
    have := hel j y hj'
    have hj1 : (j + 1) * r.u.size ≤ (Nat.min zs.length n) * r.u.size := Nat.mul_le_mul_right _ hjn
    rw [Nat.succ_mul] at hj1
    rw [List.drop_take, List.take_take, Nat.min_eq_left (by omega)]
    exact this)
   (fun v hv => hone v (List.mem_of_mem_take hv))
  refine ⟨t1, hH, hm, hx', fun q hq => .inl (by rw [hU] at hq; exact hq), _, run_copy_some ht hi a ad n c zs.length cy _ (by rw [List.length_take, hsz]; omega) (fun j w hj => ?_) hrun, ?_⟩
  ·rw [List.getElem?_take] at hj
   split at hj
   ·exact hcells j w hj
   ·cases hj
  ·rw [hmin]
   exact int_relV
theorem copyV_ok {P : Program} {B : Nat} {s : S4} (h : MemOk B s) {t t' ty e : TypeId} {u : U} {bytes : Nat} (ht : P.underlying t = some (.slice e)) (he : ElemFact P e u bytes) {key : Nat} (hk : key < s.H.nx) {v w v' : V} {x y : Value} {H' : HF} (hx : RelV s v x) (hy : RelV s w y) (hto : (copyV s.H u v w).to v' H') :
  ValOk B s key ((Builtin.copy_ #[t, t'] ty #[x, y]).run P s.W) v' H' := by
 unfold copyV at hto
 split at hto
 ·cases hto
 rename_i ys hd
 split at hto
 ·obtain ⟨rfl, rfl⟩ := hto
  obtain ⟨cs, h1, h2⟩ := hx.get (by intro h; cases h) (by intro w h; cases h)
  simp only [RelC] at h1
  subst h1
  have h2 := isVal_one h2 rfl
  subst h2
  obtain ⟨Ay, cy, rfl, _⟩ := slD_form (sl_of_deepen h hy hd)
  obtain ⟨i, z, hi, hsz, hz, hzc⟩ := he.info
  exact ValOk.same h (run_copy_zero ht hi _ _ _ _ _ _ (Nat.min_eq_right (Nat.zero_le _))) int_relV
 ·rename_i k
  split at hto
  ·rename_i r hr
   split at hto
   ·rename_i hw
    split at hto
    ·rename_i zs hc
     obtain ⟨rfl, rfl⟩ := hto
     obtain ⟨e1, e2⟩ := castT_some hc
     injection e1 with e1
     subst e1
     have e2 : ys = zs := e2
     subst e2
     obtain ⟨A, c, rfl, hv⟩ := (seg_of hx hr).1 rfl
     exact copy_seg h ht he hr hw hv (by omega) hy hd
    ·cases hto
   ·cases hto
  ·cases hto
 ·rename_i k o n
  split at hto
  ·rename_i r hr
   split at hto
   ·rename_i hw
    split at hto
    ·rename_i zs hc
     obtain ⟨rfl, rfl⟩ := hto
     obtain ⟨e1, e2⟩ := castT_some hc
     injection e1 with e1
     subst e1
     have e2 : ys = zs := e2
     subst e2
     obtain ⟨A, c, rfl, hon, hv⟩ := (seg_of hx hr).2 o n rfl
     exact copy_seg h ht he hr hw hv hon hy hd
    ·cases hto
   ·cases hto
  ·cases hto
 ·cases hto
end Go.Proofs.YtdokfjkihjkcmaaGreatDoor.Den

/- Calls: of builtins, and of functions that a summary tells. -/
namespace Go.Proofs.YtdokfjkihjkcmaaGreatDoor.Den
open Go Go.RowKit
set_option linter.unusedVariables false
set_option linter.unusedSectionVars false
theorem run_append_zeros {P : Program} {W : World} {t t' ty e : TypeId} {k k' : IntKind} {i : TypeInfo} {z : Value} {n : Int} {l : Nat} (ht : P.underlying t = some (.slice e)) (ht' : P.underlying t' = some (.int k)) (hi : P.info? e = some i) (hz : i.zero = some z)
  (hn : IntKind.i64.wrap n = l) (h0 : 0 < l) (hs : 0 < i.size) (hb0 : 0 < i.bytes) (hb : l * i.bytes ≤ 140737488355328) :
  (Builtin.append_ #[t, t'] ty #[.slice none 0 0, .int k' n]).run P W = .ok (.slice (some ⟨W.heap.size, 0, none⟩) l (grownCap W l 0 e)) (W.drew.alloc (.cells (Builtin.zeroCells z.cells l ++ Builtin.zeroCells z.cells (grownCap W l 0 e - l)) e)) := by
 have hl : l ≤ 140737488355328 := Nat.le_trans (Nat.le_mul_of_pos_right _ hb0) hb
 have h1 : ¬ ((l : Int) < 0) := by omega
 have h2 : ¬ (281474976710656 < (l : Int) * (i.bytes : Int)) := by
  have : ((l * i.bytes : Nat) : Int) ≤ 140737488355328 := Int.ofNat_le.2 hb
  rw [Int.natCast_mul] at this
  omega
 have h3 : l ≠ 0 := by omega
 have h63 : ¬ (9223372036854775807 < (l : Int)) := by omega
 have h48 : ¬ (281474976710656 < Builtin.nextslicecap l 0 * i.bytes) := by rw [nextslicecap_zero h0]; omega
 simp [Builtin.append_, run_underlying ht, run_underlying ht', sizeOf, typeInfo, zeroValue, Go.asInt, asIntOf, hi, hz, hn, h1, h2, h3, h63, h48, Question.forced, run_firstCells_none, newRow, grownCap]
 intro h5
 have := Nat.mul_pos h0 hs
 omega
theorem run_append_zeros0 {P : Program} {W : World} {t t' ty e : TypeId} {k k' : IntKind} {i : TypeInfo} {n : Int} (ht : P.underlying t = some (.slice e)) (ht' : P.underlying t' = some (.int k)) (hi : P.info? e = some i)
  (hn : IntKind.i64.wrap n = 0) :
  (Builtin.append_ #[t, t'] ty #[.slice none 0 0, .int k' n]).run P W = .ok (.slice none 0 0) W := by
 simp [Builtin.append_, run_underlying ht, run_underlying ht', sizeOf, typeInfo, Go.asInt, asIntOf, hi, hn]
theorem appendZ_ok {P : Program} {E : TE} (hE : TEok P E) {B : Nat} {s : S4} (h : MemOk B s) {t t' ty e : TypeId} {u : U} {bytes : Nat} (ht : P.underlying t = some (.slice e)) (he : ElemFact P e u bytes) (hb0 : 0 < bytes) (hzp : 0 < u.size) {key : Nat} (hu : ¬ s.U key) (hk : key < s.H.nx)
  {x y v' : V} {vx vy : Value} {H' : HF} (hx : RelV s x vx) (hy : RelV s y vy) (hto : (appendZ E s.H key u bytes t' x y).to v' H') : ValOk B s key ((Builtin.append_ #[t, t'] ty #[vx, vy]).run P s.W) v' H' := by
 unfold appendZ at hto
 split at hto
 ·rename_i k hty
  have ht' := hE.int t' k hty
  split at hto
  ·split at hto
   ·rename_i k' n
    rcases hto with ⟨h0, hto⟩ | ⟨_, hto⟩
    ·rcases hto with ⟨hby, rfl, rfl⟩ | ⟨_, hto⟩
     ·have h0 := of_decide_eq_true h0
      have hby := of_decide_eq_true hby
      obtain ⟨i, z, hi, hsz, hbt, hz, hzc⟩ := he.info
      have hzs : z.cells.size = u.size := by rw [← Array.length_toList, hzc, zcells_len]
      obtain ⟨cs, h1, h2⟩ := hx.get (by intro h; cases h) (by intro w h; cases h)
      simp only [RelC] at h1
      subst h1
      have := isVal_one h2 rfl
      subst this
      obtain ⟨cs, h1, h2⟩ := hy.get (by intro h; cases h) (by intro w h; cases h)
      simp only [RelC, RelD] at h1
      subst h1
      have := isVal_one h2 rfl
      subst this
      obtain ⟨l, hl⟩ := Int.eq_ofNat_of_zero_le h0
      rw [hl] at hby ⊢
      simp only [Int.toNat_natCast] at hby ⊢
      rcases Nat.eq_zero_or_pos l with hm | hm
      ·subst hm
       obtain ⟨t', a1, a2, a3, a4, a5, a6⟩ := empty_ok h (key := key) hu hk hzp none
       exact ⟨t', a1, a2, a3, fun q hq => (a4 q hq).imp id (fun e => by omega), _, by rw [a5]; exact run_append_zeros0 ht ht' hi hl, a6⟩
      ·have hrun := run_append_zeros (P := P) (W := s.W) (ty := ty) (k' := k') ht ht' hi hz hl hm (by omega) (by omega) (by rw [hbt]; exact hby)
       have hzl : (Builtin.zeroCells z.cells l).toList.length = (List.replicate l u.zero).length * u.size := by
        rw [Array.length_toList, size_zeroCells, List.length_replicate, hzs]
       obtain ⟨t', a1, a2, a3, a4, a5, a6⟩ := grown_ok h (key := key) hu hk hzp (xs := ([] : List u.T)) (ys := List.replicate l u.zero) (olds := []) (news := (Builtin.zeroCells z.cells l).toList) (by simp) hzl (fun q x hq => by simp at hq) (fun q x hq => by
        obtain ⟨hq1, hq2⟩ := List.getElem?_eq_some_iff.1 hq
        rw [List.length_replicate] at hq1
        rw [List.getElem_replicate] at hq2
        subst hq2
        have e1 : Builtin.zeroCells z.cells l = madeCells z.cells (l * z.cells.size) := rfl
        have := made_chunk z.cells l q hq1 (by omega)
        rw [e1, ← hzs, this, hzc]
        exact RelD.zero _ _ u) e z.cells (grownCap s.W l 0 e) (by simpa using grownCap_ge s.W l 0 e) hzs
       refine ⟨t', by simpa using a1, a2, a3, fun q hq => (a4 q hq).imp id (fun e => by omega), _, ?_, a6⟩
       rw [a5, hrun]
       simp
     ·cases hto
    ·cases hto
   ·cases hto
  ·cases hto
 ·cases hto
theorem abuiltin_ok {P : Program} {E : TE} (hE : TEok P E) {B : Nat} {s : S4} (h : MemOk B s) {key : Nat} (hu : ¬ s.U key) (hk : key < s.H.nx) (hku : ∀ k, key ≤ k → k < key + 16 → ¬ s.U k) (hkn : key + 16 ≤ s.H.nx) {T : TF} {a : Act} (hT : TRel s T a.tmps) {b : Builtin} {c : Call} (hc : c.callee = .builtin b) {type : TypeId} {v : V} {H' : HF}
  (hto : (abuiltin E key T s.H b c.args.toList c.argTypes.toList).to v H') : OpOk B s key ((do let d ← resolve a.eval c type; invoke d.target d.args : Sem Next).run P s.W) v H' := by
 have hr : ((do let d ← resolve a.eval c type; invoke d.target d.args : Sem Next).run P s.W) = (builtin b c.argTypes type (c.args.map fun | .const _ => true | _ => false) (c.args.map a.eval)).run P s.W := by
  simp [resolve, hc, invoke]
  rfl
 rw [hr]
 unfold abuiltin at hto
 split at hto
 ·rename_i x t hx ht
  have e1 : c.args.map a.eval = #[a.eval x] := by apply Array.ext'; simp [hx]
  have e2 : c.argTypes = #[t] := by apply Array.ext'; simp [ht]
  split at hto
  ·rename_i u hut
   split at hto
   ·rename_i n hn
    obtain ⟨rfl, rfl⟩ := hto
    obtain ⟨e, hte, he⟩ := hE.elem t u hut
    obtain ⟨A, m, cc, hX, rfl, _⟩ := lenV_ok (evO_rel hT x) hn
    refine OpOk.same h (x := .int .i64 m) ?_ int_relV
    rw [e1, e2, hX]
    simp [builtin, Builtin.len_, run_underlying hte]
    rfl
   ·cases hto
  ·cases hto
 ·rename_i x y t t' hx ht
  have e1 : c.args.map a.eval = #[a.eval x, a.eval y] := by apply Array.ext'; simp [hx]
  have e2 : c.argTypes = #[t, t'] := by apply Array.ext'; simp [ht]
  split at hto
  ·rename_i u hut
   split at hto
   ·rename_i hq
    simp only [Bool.and_eq_true] at hq
    have ett := nat_beq hq.1.1
    subst ett
    have hz : 0 < u.size := by simpa [Nat.blt_eq] using hq.1.2
    have hb : 0 < E.ebytes t := by simpa [Nat.blt_eq] using hq.2
    obtain ⟨e, hte, he⟩ := hE.elem t u hut
    rw [e1, e2]
    exact .ofVal (appendV_ok h hte he hb hz hu (hku (key + 1) (by omega) (by omega)) (by omega) (evO_rel hT x) (evO_rel hT y) hto)
   ·split at hto
    ·rename_i hq
     simp only [Bool.and_eq_true] at hq
     have hz : 0 < u.size := by simpa [Nat.blt_eq] using hq.1
     have hb : 0 < E.ebytes t := by simpa [Nat.blt_eq] using hq.2
     obtain ⟨e, hte, he⟩ := hE.elem t u hut
     rw [e1, e2]
     exact .ofVal (appendZ_ok hE h hte he hb hz hu hk (evO_rel hT x) (evO_rel hT y) hto)
    ·cases hto
  ·cases hto
 ·rename_i x t hx ht
  have e1 : c.args.map a.eval = #[a.eval x] := by apply Array.ext'; simp [hx]
  have e2 : c.argTypes = #[t] := by apply Array.ext'; simp [ht]
  split at hto
  ·rename_i u hut
   obtain ⟨e, hte, he⟩ := hE.elem t u hut
   rw [e1, e2]
   exact .ofVal (clearV_ok h hte he hk (evO_rel hT x) hto)
  ·cases hto
 ·rename_i x y t t' hx ht
  have e1 : c.args.map a.eval = #[a.eval x, a.eval y] := by apply Array.ext'; simp [hx]
  have e2 : c.argTypes = #[t, t'] := by apply Array.ext'; simp [ht]
  split at hto
  ·rename_i u hut
   obtain ⟨e, hte, he⟩ := hE.elem t u hut
   rw [e1, e2]
   exact .ofVal (copyV_ok h hte he hk (evO_rel hT x) (evO_rel hT y) hto)
  ·cases hto
 ·rename_i x t hx ht
  have e1 : c.args.map a.eval = #[a.eval x] := by apply Array.ext'; simp [hx]
  have e2 : c.argTypes = #[t] := by apply Array.ext'; simp [ht]
  split at hto
  ·rename_i u hut
   obtain ⟨e, hte, he⟩ := hE.elem t u hut
   split at hto
   ·rename_i hn
    obtain ⟨rfl, rfl⟩ := hto
    obtain ⟨cs, h1, h2⟩ := (evO_is hT hn).get (by intro h; cases h) (by intro w h; cases h)
    simp only [RelC] at h1
    subst h1
    have h2 := isVal_one h2 rfl
    refine OpOk.same h (x := .int .i64 0) ?_ int_relV
    rw [e1, e2, h2]
    simp [builtin, Builtin.cap_, run_underlying hte]
    rfl
   ·cases hto
  ·cases hto
 ·rename_i x y t t' hx ht
  have e1 : c.args.map a.eval = #[a.eval x, a.eval y] := by apply Array.ext'; simp [hx]
  split at hto
  ·rename_i k p hp
   split at hto
   ·rename_i k' q hq
    obtain ⟨rfl, rfl⟩ := hto
    refine OpOk.same h (x := .int k (bif decide (q < p) then q else p)) ?_ int_relV
    rw [e1, evO_int hT hp, evO_int hT hq]
    simp [builtin, Builtin.min_, Builtin.min2]
   ·cases hto
  ·cases hto
 ·rename_i x y t t' hx ht
  have e1 : c.args.map a.eval = #[a.eval x, a.eval y] := by apply Array.ext'; simp [hx]
  split at hto
  ·rename_i k p hp
   split at hto
   ·rename_i k' q hq
    obtain ⟨rfl, rfl⟩ := hto
    refine OpOk.same h (x := .int k (bif decide (p < q) then q else p)) ?_ int_relV
    rw [e1, evO_int hT hp, evO_int hT hq]
    simp [builtin, Builtin.max_, Builtin.max2]
   ·cases hto
  ·cases hto
 ·cases hto
structure Enters (P : Program) (f : FuncId) : Prop where
 fn : ∃ fn, P.funcs[f]? = some fn ∧ (fn.name == "runtime.NumGoroutine") = false ∧ fn.body.isNone = false
theorem Enters.run {P : Program} {f : FuncId} (h : Enters P f) (args : Array Value) (W : World) : (callFunc f args).run P W = .ok (.enter f args) W := by
 obtain ⟨fn, h1, h2, h3⟩ := h.fn
 have n2 : ¬ fn.name = "runtime.NumGoroutine" := by simpa using h2
 have n3 : ¬ fn.body = none := by
  intro e
  simp [e] at h3
 simp [callFunc, h1, n2, n3]
def RU.agg : RU → Bool
 | .d u => u.agg
 | .own _ => false
 | .no u => u.agg
 | .omap _ => false
 | .ifc _ _ => false
 | .nil => true
 | .cons _ _ => true
def RU.size : RU → Nat
 | .d u => u.size
 | .own _ => 1
 | .no u => u.size
 | .omap _ => 1
 | .ifc _ _ => 1
 | .nil => 0
 | .cons a b => a.size + b.size
def RelArgs (W : World) (I : Nat → Prop) : (a : U) → a.T → List Value → Prop
 | .cons a b, x, l => ∃ v r cs, l = v :: r ∧ RelD W I a x.1 cs ∧ IsVal a.agg cs v ∧ RelArgs W I b x.2 r
 | .nil, _, l => l = []
 | _, _, _ => False
def OwnAt (W : World) (I : Nat → Prop) (B : Nat) (u : U) (xs : List u.T) (v : Value) (bs : List Nat) : Prop :=
 0 < u.size ∧ ∃ pl : Option (Nat × Nat), RowV W pl u.size 0 xs.length v ∧ bs = (pl.map Prod.fst).toList ∧ (pl = none → xs = []) ∧
  ∀ b base, pl = some (b, base) → B ≤ b ∧ ¬ I b ∧ ∃ cur t, W.heap[b]? = some (.cells cur t (0, 0)) ∧ base + xs.length * u.size ≤ cur.size ∧
   ∀ (i : Nat) (x : u.T), xs[i]? = some x → ∃ c, RelD W I u x c ∧ ∀ (j : Nat) (v : Value), c[j]? = some v → cur[base + i * u.size + j]? = some v
def RelR (W : World) (I : Nat → Prop) (B : Nat) : (r : RU) → r.T → List Value → List Nat → Prop
 | .d u, x, cs, bs => RelD W I u x cs ∧ bs = []
 | .own u, xs, cs, bs => ∃ v, cs = [v] ∧ OwnAt W I B u xs v bs
 | .no u, _, cs, bs => (cs.length = u.size ∧ ∀ v ∈ cs, v.oneCell' = true) ∧ bs = []
 | .omap u, xs, cs, bs => ∃ b es clock, cs = [.map (some b)] ∧ bs = [b] ∧ B ≤ b ∧ ¬ I b ∧ W.heap[b]? = some (.map es clock) ∧ MapRel W I u xs es clock
 | .ifc t fs, _, cs, bs => (∀ s : S4, RelC s (.fn t (.cons (pvV fs) .nil) .undef) cs) ∧ bs = []
 | .nil, _, cs, bs => cs = [] ∧ bs = []
 | .cons a b, x, cs, bs => ∃ c1 c2 b1 b2, cs = c1 ++ c2 ∧ bs = b1 ++ b2 ∧ RelR W I B a x.1 c1 b1 ∧ RelR W I B b x.2 c2 b2
def RelRs (W : World) (I : Nat → Prop) (B : Nat) : (r : RU) → r.T → List Value → List Nat → Prop
 | .cons a b, x, l, bs => ∃ v r cs b1 b2, l = v :: r ∧ bs = b1 ++ b2 ∧ RelR W I B a x.1 cs b1 ∧ IsVal a.agg cs v ∧ RelRs W I B b x.2 r b2
 | .nil, _, l, bs => l = [] ∧ bs = []
 | _, _, _, _ => False
def outValue (l : List Value) : Value := match l with
 | [v] => v
 | l => .tuple l.toArray
structure SemOf (P : Program) (f : FuncId) (sm : Sum) : Prop where
 enters : Enters P f
 calls : ∀ (W : World) (I : Nat → Prop), (∀ b, I b → b < W.heap.size) → GlobW W I → ∀ (x : sm.a.T) (args : List Value) (r : sm.r.T), RelArgs W I sm.a x args → sm.F x = some r →
  Calls P f args.toArray W fun e W' => ∃ l bs I', e = .returned (outValue l) ∧ Below W.heap.size W W' ∧ (∀ b, I' b → (I b ∨ W.heap.size ≤ b) ∧ b < W'.heap.size) ∧ RelRs W' I' W.heap.size sm.r r l bs ∧ bs.Nodup
theorem RelD.noSl {W : World} {I I' : Nat → Prop} : ∀ {u : U} {x : u.T} {cs : List Value}, RU.anyD.go u = false → RelD W I u x cs → RelD W I' u x cs
 | .int _, _, _, _, h => h
 | .bool, _, _, _, h => h
 | .fn, _, _, _, h => h
 | .sl _, _, _, hg, _ => by simp [RU.anyD.go] at hg
 | .arr n u, _, _, hg, h => ⟨h.1, h.2.1, fun i x hi => RelD.noSl (by simpa [RU.anyD.go] using hg) (h.2.2 i x hi)⟩
 | .nil, _, _, _, h => h
 | .cons a b, _, _, hg, h => by
  simp only [RU.anyD.go, Bool.or_eq_false_iff] at hg
  obtain ⟨c1, c2, rfl, h1, h2⟩ := h
  exact ⟨c1, c2, rfl, RelD.noSl hg.1 h1, RelD.noSl hg.2 h2⟩
def S4.afterCall (s : S4) (W' : World) (I' : Nat → Prop) : S4 := { s with W := W', I := fun b => s.I b ∨ (I' b ∧ s.W.heap.size ≤ b) }
theorem afterCall_ok {B : Nat} {s : S4} (h : MemOk B s) {W' : World} {I' : Nat → Prop} (hb : Below s.W.heap.size s.W W') (hI : ∀ b, I' b → b < W'.heap.size) : MemOk B (s.afterCall W' I') ∧ Ext B s (s.afterCall W' I') := by
 have k : WKeep B s W' := ⟨hb.mono h.bsz, hb.size, fun b hlt => hb.block b hlt⟩
 have m := k.memOk h
 have x : Ext B s (s.afterCall W' I') := {
  i := fun b hb => .inl hb
  inew := fun b hb => by
   rcases hb with hb | ⟨_, hb⟩
   ·exact .inl hb
   ·exact .inr (Nat.le_trans h.bsz hb)
  w := fun b hb => .eq (k.old b (h.ilt b hb)) rfl
  below := k.below
  u := fun _ hk => hk
  nx := Nat.le_refl _
  var := fun x c _ hc => ⟨c, hc, rfl, rfl⟩
  row := fun x r _ hr => ⟨hr, fun b base hp => bsize_of (k.old b (h.geolt hr hp))⟩
  pl := fun _ _ => rfl }
 have hdj : DJ B (s.afterCall W' I') := by
  refine h.dj.mono x (fun y _ _ _ _ _ hy => ⟨hy, rfl, k.old _ (h.varlt hy)⟩) (fun y i b hi ht => ?_) (fun _ _ _ hi => k.old _ (h.dj.inlt hi).1)
  rcases ht with (ht | ⟨_, ht⟩) | ht
  ·exact .inl ht
  ·exact absurd ht (Nat.not_le_of_lt (h.dj.inlt hi).1)
  ·exact .inr ht
 refine ⟨⟨?_, m.bsz, m.un, ?_, ?_, m.vv, m.rr, m.vr, m.hk, hdj⟩, x⟩
 ·rintro b (hb' | ⟨hb', _⟩)
  ·exact m.ilt b hb'
  ·exact hI b hb'
 ·intro y c hc
  obtain ⟨h1, h2, h3, o, h4, h5⟩ := h.var y c hc
  refine ⟨h1, h2, ?_, o, (k.old _ (heap_lt h4)).trans h4, RelO.ext x h5⟩
  rintro (hb' | ⟨_, hb'⟩)
  ·exact h3 hb'
  ·exact Nat.not_le_of_lt (heap_lt h4) hb'
 ·intro y r hr
  obtain ⟨h1, h2, h3⟩ := h.row y r hr
  refine ⟨h1, h2, h3.imp id ?_⟩
  rintro ⟨b, base, cur, t, e, hh, hw, hf, hs, hx⟩
  refine ⟨b, base, cur, t, e, (k.old _ (heap_lt hh)).trans hh, fun h0 => ⟨(hw h0).1, ?_⟩, fun h0 => .inl (hf h0), hs, fun i y hi => by
   obtain ⟨c, hc, hcc⟩ := hx i y hi
   exact ⟨c, hc.monoC x.i x.cw, hcc⟩⟩
  rintro (hb' | ⟨_, hb'⟩)
  ·exact (hw h0).2 hb'
  ·exact Nat.not_le_of_lt (heap_lt hh) hb'
end Go.Proofs.YtdokfjkihjkcmaaGreatDoor.Den

/- One operation of a region, whatever it is. -/
namespace Go.Proofs.YtdokfjkihjkcmaaGreatDoor.Den
open Go Go.RowKit
set_option linter.unusedVariables false
set_option linter.unusedSectionVars false
theorem OwnAt.to {W : World} {I J : Nat → Prop} {B : Nat} {u : U} {xs : List u.T} {v : Value} {bs : List Nat} (hJ : RU.anyD.go u = false ∨ ∀ b, I b → J b) (hn : ∀ b ∈ bs, ¬ J b) (h : OwnAt W I B u xs v bs) : OwnAt W J B u xs v bs := by
 obtain ⟨h0, pl, h1, h2, h3, h4⟩ := h
 refine ⟨h0, pl, h1, h2, h3, fun b base hp => ?_⟩
 obtain ⟨g1, g2, cur, t, g3, g4, g5⟩ := h4 b base hp
 refine ⟨g1, hn b (by rw [h2, hp]; simp), cur, t, g3, g4, fun i x hi => ?_⟩
 obtain ⟨c, hc, hcc⟩ := g5 i x hi
 rcases hJ with hJ | hJ
 ·exact ⟨c, hc.noSl hJ, hcc⟩
 ·exact ⟨c, hc.mono hJ (fun _ _ => rfl), hcc⟩
theorem MapRel.any {W W' : World} {I I' : Nat → Prop} {u : U} {xs : List (Int × u.T × Unit)} {es : Array MapEntry} {clock : Nat} (h : MapRel W I u xs es clock) : MapRel W' I' u xs es clock :=
 ⟨h.mel, h.size, h.clock, h.nd, fun i p hi => by
  obtain ⟨e, h1, h2, h3, h4⟩ := h.at_ i p hi
  exact ⟨e, h1, h2, h3, mel_any h.mel h4⟩⟩
theorem RelR.to {W : World} {I J : Nat → Prop} {B : Nat} : ∀ {r : RU} {x : r.T} {cs : List Value} {bs : List Nat}, (r.anyD = false ∨ ∀ b, I b → J b) → (∀ b ∈ bs, ¬ J b) → RelR W I B r x cs bs → RelR W J B r x cs bs
 | .d u, x, cs, bs, hJ, hn, h => by
  rcases hJ with hJ | hJ
  ·exact ⟨h.1.noSl hJ, h.2⟩
  ·exact ⟨h.1.mono hJ (fun _ _ => rfl), h.2⟩
 | .own u, x, cs, bs, hJ, hn, h => by
  obtain ⟨v, rfl, h⟩ := h
  exact ⟨v, rfl, h.to hJ hn⟩
 | .no u, x, cs, bs, hJ, hn, h => h
 | .omap u, x, cs, bs, hJ, hn, h => by
  obtain ⟨b, es, clock, rfl, rfl, h1, h2, h3, h4⟩ := h
  exact ⟨b, es, clock, rfl, rfl, h1, hn b (by simp), h3, h4.any⟩
 | .ifc t fs, x, cs, bs, hJ, hn, h => h
 | .nil, x, cs, bs, hJ, hn, h => h
 | .cons a b, x, cs, bs, hJ, hn, h => by
  obtain ⟨c1, c2, b1, b2, rfl, rfl, h1, h2⟩ := h
  have hJ1 : a.anyD = false ∨ ∀ b, I b → J b := hJ.imp (fun e => by simp only [RU.anyD, Bool.or_eq_false_iff] at e; exact e.1) id
  have hJ2 : b.anyD = false ∨ ∀ b, I b → J b := hJ.imp (fun e => by simp only [RU.anyD, Bool.or_eq_false_iff] at e; exact e.2) id
  exact ⟨c1, c2, b1, b2, rfl, rfl, h1.to hJ1 (fun b hb => hn b (by simp [hb])), h2.to hJ2 (fun b hb => hn b (by simp [hb]))⟩
theorem RelRs.to {W : World} {I J : Nat → Prop} {B : Nat} : ∀ {r : RU} {x : r.T} {l : List Value} {bs : List Nat}, (r.anyD = false ∨ ∀ b, I b → J b) → (∀ b ∈ bs, ¬ J b) → RelRs W I B r x l bs → RelRs W J B r x l bs
 | .d u, x, l, bs, hJ, hn, h => by simp only [RelRs] at h
 | .own u, x, l, bs, hJ, hn, h => by simp only [RelRs] at h
 | .no u, x, l, bs, hJ, hn, h => by simp only [RelRs] at h
 | .omap u, x, l, bs, hJ, hn, h => by simp only [RelRs] at h
 | .ifc _ _, x, l, bs, hJ, hn, h => by simp only [RelRs] at h
 | .nil, x, l, bs, hJ, hn, h => h
 | .cons a b, x, l, bs, hJ, hn, h => by
  obtain ⟨v, r, cs, b1, b2, rfl, rfl, h1, hv, h2⟩ := h
  have hJ1 : a.anyD = false ∨ ∀ b, I b → J b := hJ.imp (fun e => by simp only [RU.anyD, Bool.or_eq_false_iff] at e; exact e.1) id
  have hJ2 : b.anyD = false ∨ ∀ b, I b → J b := hJ.imp (fun e => by simp only [RU.anyD, Bool.or_eq_false_iff] at e; exact e.2) id
  exact ⟨v, r, cs, b1, b2, rfl, rfl, h1.to hJ1 (fun b hb => hn b (by simp [hb])), hv, h2.to hJ2 (fun b hb => hn b (by simp [hb]))⟩
structure RecvOk (B : Nat) (s : S4) (key n k' : Nat) (H' : HF) (bs : List Nat) (t : S4) : Prop where
 k : k' = key + n
 H : t.H = H'
 m : MemOk B t
 x : Ext B s t
 W : t.W = s.W
 I : t.I = s.I
 u : ∀ k, t.U k → s.U k ∨ (key ≤ k ∧ k < key + n)
 nx : t.H.nx = s.H.nx
 free : ∀ b, Free B s b → b ∉ bs → Free B t b
theorem unk_ok {B : Nat} : ∀ {u : U} {key : Nat} {s : S4} {cs : List Value}, MemOk B s → cs.length = u.size → (∀ v ∈ cs, v.oneCell' = true) → u.unks ≤ 16 → key + u.unks ≤ s.H.nx → (∀ k, key ≤ k → k < key + u.unks → ¬ s.U k) →
  ∃ t, RecvOk B s key u.unks (u.unk key).2 s.H [] t ∧ RelC t (u.unk key).1 cs ∧ (u.unk key).1.agg = u.agg := by
 have leaf : ∀ {key : Nat} {s : S4} {cs : List Value}, MemOk B s → cs.length = 1 → (∀ v ∈ cs, v.oneCell' = true) → key + 1 ≤ s.H.nx → (∀ k, key ≤ k → k < key + 1 → ¬ s.U k) →
   ∃ t, RecvOk B s key 1 (key + 1) s.H [] t ∧ RelC t (.row key) cs := by
  intro key s cs h hl h1 hk hu
  obtain ⟨v, rfl⟩ : ∃ v, cs = [v] := by
   match cs, hl with
   | [v], _ => exact ⟨v, rfl⟩
  have hu' : ¬ s.U key := hu key (Nat.le_refl _) (by omega)
  have x : Ext B s { s with U := fun j => s.U j ∨ j = key } := ⟨fun _ h => h, fun _ h => .inl h, fun _ _ => .eq rfl rfl, Below.refl _ _, fun _ h => .inl h, Nat.le_refl _, fun k c _ hc => ⟨c, hc, rfl, rfl⟩, fun k r _ hr => ⟨hr, fun _ _ _ => rfl⟩, fun _ _ => rfl, rfl, fun h => h, fun _ _ => rfl⟩
  refine ⟨{ s with U := fun j => s.U j ∨ j = key }, ⟨rfl, rfl, ⟨h.ilt, h.bsz, ?_, fun k c hc => ?_, fun k r hr => ?_, h.vv, h.rr, h.vr, h.hk, h.dj.mono x (fun _ _ _ _ _ _ hk => ⟨hk, rfl, rfl⟩) (fun _ _ _ _ ht => ht) (fun _ _ _ _ => rfl)⟩, x, rfl, rfl, ?_, rfl, fun b hb _ => ⟨hb.B, hb.i, hb.var, hb.row, hb.dj⟩⟩, ?_⟩
  ·rintro k (hk' | rfl)
   ·exact h.un k hk'
   ·show _ < s.H.nx
    omega
  ·obtain ⟨g1, g2, g3, o, g4, g5⟩ := h.var k c hc
   exact ⟨.inl g1, g2, g3, o, g4, RelO.ext x g5⟩
  ·obtain ⟨g1, g2⟩ := h.row k r hr
   exact ⟨.inl g1, g2⟩
  ·rintro k (hk' | rfl)
   ·exact .inl hk'
   ·exact .inr ⟨Nat.le_refl _, Nat.lt_succ_self _⟩
  ·simp only [RelC]
   exact ⟨.inr trivial, v, rfl, h1 v (by simp), fun r hr => absurd (h.geoU hr) hu'⟩
 intro u
 induction u with
 | int k =>
  intro key s cs h hl h1 h16 hk hu
  obtain ⟨t, r, e⟩ := leaf h hl h1 hk hu
  exact ⟨t, r, e, rfl⟩
 | bool =>
  intro key s cs h hl h1 h16 hk hu
  obtain ⟨t, r, e⟩ := leaf h hl h1 hk hu
  exact ⟨t, r, e, rfl⟩
 | fn =>
  intro key s cs h hl h1 h16 hk hu
  obtain ⟨t, r, e⟩ := leaf h hl h1 hk hu
  exact ⟨t, r, e, rfl⟩
 | sl u _ =>
  intro key s cs h hl h1 h16 hk hu
  obtain ⟨t, r, e⟩ := leaf h hl h1 hk hu
  exact ⟨t, r, e, rfl⟩
 | arr n u _ =>
  intro key s cs h hl h1 h16 hk hu
  exact absurd h16 (by show ¬ (17 ≤ 16); omega)
 | nil =>
  intro key s cs h hl h1 h16 hk hu
  refine ⟨s, ⟨rfl, rfl, h, Ext.refl B s, rfl, rfl, fun k hk => .inl hk, rfl, fun b hb _ => hb⟩, ?_, rfl⟩
  simp only [U.unk, RelC]
  exact List.eq_nil_of_length_eq_zero hl
 | cons a b iha ihb =>
  intro key s cs h hl h1 h16 hk hu
  simp only [U.size, U.unks] at hl h16 hk hu
  obtain ⟨t1, r1, e1, f1⟩ := iha (key := key) (s := s) (cs := cs.take a.size) h (by rw [List.length_take]; omega) (fun v hv => h1 v (List.mem_of_mem_take hv)) (by omega) (by omega) (fun k g1 g2 => hu k g1 (by omega))
  obtain ⟨t2, r2, e2, f2⟩ := ihb (key := key + a.unks) (s := t1) (cs := cs.drop a.size) r1.m (by rw [List.length_drop]; omega) (fun v hv => h1 v (List.mem_of_mem_drop hv)) (by omega) (by rw [r1.nx]; omega) (fun k g1 g2 hk' => by
   rcases r1.u k hk' with hk' | hk'
   ·exact hu k (by omega) (by omega) hk'
   ·omega)
  have hH : (U.cons a b).unk key = (.cons (a.unk key).1 (b.unk (key + a.unks)).1, (b.unk (key + a.unks)).2) := by
   simp only [U.unk]
   rw [r1.k]
  rw [hH]
  refine ⟨t2, ⟨?_, r2.H.trans r1.H, r2.m, r1.x.trans r2.x, r2.W.trans r1.W, r2.I.trans r1.I, fun k hk => ?_, r2.nx.trans r1.nx, fun b' hb hn => r2.free b' (r1.free b' hb hn) hn⟩, ?_, rfl⟩
  ·rw [r2.k]; simp only [U.unks]; omega
  ·simp only [U.unks]
   rcases r2.u k hk with hk | hk
   ·rcases r1.u k hk with hk | hk
    ·exact .inl hk
    ·exact .inr (by omega)
   ·exact .inr (by omega)
  ·simp only [RelC]
   exact ⟨_, _, (List.take_append_drop a.size cs).symm, RelC.ext r2.x e1, e2⟩
theorem recv_ok {B lo : Nat} : ∀ {r : RU} {x : r.T} {key : Nat} {s : S4} {cs : List Value} {bs : List Nat}, r.owns ≤ 16 → MemOk B s → RelR s.W s.I lo r x cs bs → B ≤ lo → bs.Nodup → (∀ b ∈ bs, Free B s b) → key + r.owns ≤ s.H.nx → (∀ k, key ≤ k → k < key + r.owns → ¬ s.U k) →
  ∃ t, RecvOk B s key r.owns (r.recv x key s.H).2.1 (r.recv x key s.H).2.2 bs t ∧ RelC t (r.recv x key s.H).1 cs ∧ (r.recv x key s.H).1.agg = r.agg
 | .d u, x, key, s, cs, bs, h16, h, hr, hB, hd, hf, hk, hu => by
  refine ⟨s, ⟨rfl, rfl, h, Ext.refl B s, rfl, rfl, fun k hk => .inl hk, rfl, fun b hb _ => hb⟩, by simp only [RU.recv, RelC]; exact hr.1, ?_⟩
  simp only [RU.recv, RU.agg, V.agg, V.sk, U.sk_agg]
 | .own u, xs, key, s, cs, bs, h16, h, hr, hB, hd, hf, hk, hu => by
  obtain ⟨v, rfl, hz, pl, h1, h2, h3, h4⟩ := hr
  have hu' : ¬ s.U key := hu key (Nat.le_refl _) (by simp [RU.owns])
  have hk' : key < s.H.nx := by simp only [RU.owns] at hk; omega
  have hp : (xs = [] ∧ pl = none) ∨ ∃ b base, pl = some (b, base) ∧ Free B s b ∧ RowAt s ⟨u, xs, true⟩ b base := by
   cases hpl : pl with
   | none => exact .inl ⟨h3 hpl, rfl⟩
   | some p =>
    obtain ⟨b, base⟩ := p
    obtain ⟨_, _, cur, t, g3, g4, g5⟩ := h4 b base hpl
    exact .inr ⟨b, base, rfl, hf b (by rw [h2, hpl]; simp), cur, t, g3, g4, g5⟩
  have m := memOk_addRow h (key := key) (pl := pl) (r := ⟨u, xs, true⟩) hu' hk' hz rfl hp
  refine ⟨s.addRow key pl ⟨u, xs, true⟩, ⟨rfl, rfl, m, ext_addRow hu', rfl, rfl, fun k hk => hk.imp id (fun e => by simp only [RU.owns]; omega), rfl, fun b hb hn => ?_⟩, ?_, rfl⟩
  ·refine ⟨hb.B, hb.i, hb.var, fun k r b0 hr hw => ?_, hb.dj⟩
   rcases addRow_row hr with ⟨rfl, rfl⟩ | ⟨hne, hr⟩
   ·intro e
    have e : pl = some (b, b0) := by simpa [S4.addRow] using e
    apply hn
    rw [h2, e]
    simp
   ·intro e
    have e : s.ρ.row k = some (b, b0) := by simpa [S4.addRow, hne] using e
    exact hb.row k r b0 hr hw e
  ·simp only [RU.recv, RelC]
   refine ⟨.inr rfl, v, rfl, ?_, fun r hr => ?_⟩
   ·obtain ⟨A, c, rfl, _⟩ := h1
    rfl
   ·rcases addRow_geo hr with ⟨_, rfl⟩ | ⟨hne, _⟩
    ·have : (s.addRow key pl ⟨u, xs, true⟩).ρ.row key = pl := by simp [S4.addRow]
     rw [this]
     exact h1
    ·exact absurd rfl hne
 | .no u, x, key, s, cs, bs, h16, h, hr, hB, hd, hf, hk, hu => by
  obtain ⟨t, r, e, f⟩ := unk_ok (key := key) h hr.1.1 hr.1.2 h16 hk hu
  rw [hr.2]
  exact ⟨t, r, e, f⟩
 | .omap u, xs, key, s, cs, bs, h16, h, hr, hB, hd, hf, hk, hu => by
  obtain ⟨b, es, clock, rfl, rfl, h1, h2, h3, h4⟩ := hr
  have hu' : ¬ s.U key := hu key (Nat.le_refl _) (by simp [RU.owns])
  have hk' : key < s.H.nx := by simp only [RU.owns] at hk; omega
  have hfb := hf b (by simp)
  have m := memOk_addVarO h (key := key) (c := .mapd u xs) rfl hu' hk' hfb h3 ⟨es, clock, rfl, h4⟩
  refine ⟨s.addVar key b (.mapd u xs), ⟨rfl, rfl, m, ext_addVar hu', rfl, rfl, fun k hk => hk.imp id (fun e => by simp only [RU.owns]; omega), rfl, fun b' hb hn => ?_⟩, ?_, rfl⟩
  ·have hdj : ∀ k i, ¬ InB (s.addVar key b (.mapd u xs)) k i b' := by
    rintro k i ⟨v, r, ys, q, ho, h1, h2⟩
    rcases addVar_var h1 with ⟨_, h1⟩ | ⟨_, h1⟩
    ·cases h1
    ·exact hb.dj k i ⟨v, r, ys, q, ho, h1, h2⟩
   refine ⟨hb.B, hb.i, fun k c hc => ?_, hb.row, hdj⟩
   rcases addVar_var hc with ⟨rfl, rfl⟩ | ⟨hne, hc⟩
   ·intro e
    have e : b = b' := by simpa [S4.addVar] using e
    exact hn (by simp [e])
   ·intro e
    have e : s.ρ.var k = b' := by simpa [S4.addVar, hne] using e
    exact hb.var k c hc e
  ·simp only [RU.recv, RelC]
   refine ⟨.inr rfl, _, rfl, rfl, fun c hc => ?_⟩
   rcases addVar_pv hc with ⟨_, rfl⟩ | ⟨hne, _⟩
   ·refine ⟨rfl, ?_⟩
    simp [S4.addVar]
   ·exact absurd rfl hne
 | .ifc t fs, x, key, s, cs, bs, h16, h, hr, hB, hd, hf, hk, hu => by
  exact ⟨s, ⟨rfl, rfl, h, Ext.refl B s, rfl, rfl, fun k hk => .inl hk, rfl, fun b hb _ => hb⟩, hr.1 s, rfl⟩
 | .nil, x, key, s, cs, bs, h16, h, hr, hB, hd, hf, hk, hu => by
  exact ⟨s, ⟨rfl, rfl, h, Ext.refl B s, rfl, rfl, fun k hk => .inl hk, rfl, fun b hb _ => hb⟩, by simp only [RU.recv, RelC]; exact hr.1, rfl⟩
 | .cons a b, x, key, s, cs, bs, h16, h, hr, hB, hd, hf, hk, hu => by
  obtain ⟨c1, c2, b1, b2, rfl, rfl, g1, g2⟩ := hr
  simp only [RU.owns] at hk hu h16
  obtain ⟨hd1, hd2, hd3⟩ := List.nodup_append.1 hd
  obtain ⟨t1, r1, e1, f1⟩ := recv_ok (by omega) h g1 hB hd1 (fun b hb => hf b (by simp [hb])) (by omega) (fun k h1 h2 => hu k h1 (by omega))
  have hf2 : ∀ b ∈ b2, Free B t1 b := fun b hb => r1.free b (hf b (by simp [hb])) (fun hb1 => hd3 b hb1 b hb rfl)
  have g2' : RelR t1.W t1.I lo b x.2 c2 b2 := by rw [r1.W, r1.I]; exact g2
  obtain ⟨t2, r2, e2, f2⟩ := recv_ok (key := key + a.owns) (by omega) r1.m g2' hB hd2 hf2 (by rw [r1.nx]; omega) (fun k h1 h2 hk' => by
   rcases r1.u k hk' with hk' | hk'
   ·exact hu k (by omega) (by omega) hk'
   ·omega)
  have hH : ((RU.cons a b).recv x key s.H) = (.cons (a.recv x.1 key s.H).1 (b.recv x.2 (key + a.owns) t1.H).1, (b.recv x.2 (key + a.owns) t1.H).2.1, (b.recv x.2 (key + a.owns) t1.H).2.2) := by
   simp only [RU.recv]
   rw [← r1.k, r1.H]
  rw [hH]
  refine ⟨t2, ⟨by rw [r2.k]; simp only [RU.owns]; omega, r2.H, r2.m, r1.x.trans r2.x, r2.W.trans r1.W, r2.I.trans r1.I, fun k hk => ?_, r2.nx.trans r1.nx, fun b hb hn => ?_⟩, ?_, rfl⟩
  ·simp only [RU.owns]
   rcases r2.u k hk with hk | hk
   ·rcases r1.u k hk with hk | hk
    ·exact .inl hk
    ·exact .inr (by omega)
   ·exact .inr (by omega)
  ·simp only [List.mem_append, not_or] at hn
   exact r2.free b (r1.free b hb hn.1) hn.2
  ·simp only [RelC]
   exact ⟨c1, c2, rfl, RelC.ext r2.x e1, e2⟩
theorem recvs_ok {B lo : Nat} : ∀ {r : RU} {x : r.T} {key : Nat} {s : S4} {l : List Value} {bs : List Nat}, r.owns ≤ 16 → MemOk B s → RelRs s.W s.I lo r x l bs → B ≤ lo → bs.Nodup → (∀ b ∈ bs, Free B s b) → key + r.owns ≤ s.H.nx → (∀ k, key ≤ k → k < key + r.owns → ¬ s.U k) →
  ∃ t, RecvOk B s key r.owns (r.recv x key s.H).2.1 (r.recv x key s.H).2.2 bs t ∧ RelVL t (r.recv x key s.H).1 l
 | .d u, x, key, s, cs, bs, h16, h, hr, hB, hd, hf, hk, hu => by simp only [RelRs] at hr
 | .own u, xs, key, s, cs, bs, h16, h, hr, hB, hd, hf, hk, hu => by simp only [RelRs] at hr
 | .no u, xs, key, s, cs, bs, h16, h, hr, hB, hd, hf, hk, hu => by simp only [RelRs] at hr
 | .omap u, xs, key, s, cs, bs, h16, h, hr, hB, hd, hf, hk, hu => by simp only [RelRs] at hr
 | .ifc _ _, xs, key, s, cs, bs, h16, h, hr, hB, hd, hf, hk, hu => by simp only [RelRs] at hr
 | .nil, x, key, s, cs, bs, h16, h, hr, hB, hd, hf, hk, hu =>
  ⟨s, ⟨rfl, rfl, h, Ext.refl B s, rfl, rfl, fun k hk => .inl hk, rfl, fun b hb _ => hb⟩, hr.1⟩
 | .cons a b, x, key, s, l, bs, h16, h, hr, hB, hd, hf, hk, hu => by
  obtain ⟨v, r, cs, b1, b2, rfl, rfl, g1, hv, g2⟩ := hr
  simp only [RU.owns] at hk hu h16
  obtain ⟨hd1, hd2, hd3⟩ := List.nodup_append.1 hd
  obtain ⟨t1, r1, e1, f1⟩ := recv_ok (by omega) h g1 hB hd1 (fun b hb => hf b (by simp [hb])) (by omega) (fun k h1 h2 => hu k h1 (by omega))
  have hf2 : ∀ b ∈ b2, Free B t1 b := fun b hb => r1.free b (hf b (by simp [hb])) (fun hb1 => hd3 b hb1 b hb rfl)
  have g2' : RelRs t1.W t1.I lo b x.2 r b2 := by rw [r1.W, r1.I]; exact g2
  obtain ⟨t2, r2, e2⟩ := recvs_ok (key := key + a.owns) (by omega) r1.m g2' hB hd2 hf2 (by rw [r1.nx]; omega) (fun k h1 h2 hk' => by
   rcases r1.u k hk' with hk' | hk'
   ·exact hu k (by omega) (by omega) hk'
   ·omega)
  have hH : ((RU.cons a b).recv x key s.H) = (.cons (a.recv x.1 key s.H).1 (b.recv x.2 (key + a.owns) t1.H).1, (b.recv x.2 (key + a.owns) t1.H).2.1, (b.recv x.2 (key + a.owns) t1.H).2.2) := by
   simp only [RU.recv]
   rw [← r1.k, r1.H]
  rw [hH]
  refine ⟨t2, ⟨by rw [r2.k]; simp only [RU.owns]; omega, r2.H, r2.m, r1.x.trans r2.x, r2.W.trans r1.W, r2.I.trans r1.I, fun k hk => ?_, r2.nx.trans r1.nx, fun b hb hn => ?_⟩, ?_⟩
  ·simp only [RU.owns]
   rcases r2.u k hk with hk | hk
   ·rcases r1.u k hk with hk | hk
    ·exact .inl hk
    ·exact .inr (by omega)
   ·exact .inr (by omega)
  ·simp only [List.mem_append, not_or] at hn
   exact r2.free b (r1.free b hb hn.1) hn.2
  ·exact ⟨v, r, rfl, .inr ⟨cs, relT_of (RelC.ext r2.x e1), by rw [f1]; exact hv⟩, e2⟩
theorem out_rel {s : S4} {v : V} {l : List Value} (h : RelVL s v l) : RelV s (asum.outV false v) (outValue l) := by
 cases v with
 | cons a b =>
  obtain ⟨x, r, rfl, h1, h2⟩ := h
  cases b with
  | nil =>
   simp only [RelVL] at h2
   subst h2
   exact h1.toV
  | cons b c =>
   obtain ⟨y, r, rfl, h3, h4⟩ := h2
   exact ⟨_, rfl, x, _, rfl, h1, y, r, rfl, h3, h4⟩
  | _ => simp only [RelVL] at h2
 | nil =>
  simp only [RelVL] at h
  subst h
  exact ⟨[], rfl, rfl⟩
 | _ => simp only [RelVL] at h
theorem args_rel {B : Nat} {s : S4} (h : MemOk B s) {T : TF} {a : Act} (hT : TRel s T a.tmps) {J : Nat → Prop} : ∀ {ops : List Operand} {u : U} {x : u.T}, deepen s.H u (aop.listV T ops) = some x → (∀ b, Iv s (aop.listV T ops) b → J b) → RelArgs s.W J u x (ops.map a.eval)
 | [], u, x, hd, hJ => by
  simp only [aop.listV] at hd
  cases u <;> simp [deepen] at hd
  rfl
 | o :: ops, u, x, hd, hJ => by
  simp only [aop.listV] at hd hJ
  cases u with
  | cons p q =>
   simp only [deepen] at hd
   split at hd
   ·rename_i y hy
    split at hd
    ·rename_i z hz
     injection hd with hd
     subst hd
     obtain ⟨cs, g1, g2, _⟩ := deepen_cells h hy (evO_rel hT o)
     refine ⟨_, _, cs, rfl, g1.mono (fun b hb => hJ b ?_) (fun _ _ => rfl), g2, args_rel h hT hz (fun b hb => hJ b ?_)⟩
     ·rcases hb with hb | ⟨k, r, base, hk, hr, hp⟩
      ·exact .inl hb
      ·exact .inr ⟨k, r, base, by simp [V.rows, hk], hr, hp⟩
     ·rcases hb with hb | ⟨k, r, base, hk, hr, hp⟩
      ·exact .inl hb
      ·exact .inr ⟨k, r, base, by simp [V.rows, hk], hr, hp⟩
    ·cases hd
   ·cases hd
  | _ => simp [deepen] at hd
def CallOk (P : Program) (B : Nat) (s : S4) (f : FuncId) (args : Array Value) (R : S4 → Value → Prop) : Prop :=
 Enters P f ∧ Calls P f args s.W fun e W' => ∃ t x, e = .returned x ∧ t.W = W' ∧ MemOk B t ∧ Ext B s t ∧ R t x
theorem asumV_ok {P : Program} {f : FuncId} {sm : Sum} (hS : SemOf P f sm) {B : Nat} {s : S4} (h : MemOk B s) {key : Nat} (hu : ∀ k, key ≤ k → k < key + 16 → ¬ s.U k) (hk : key + 16 ≤ s.H.nx) (hG : GlobW s.W s.I) {av : V} {l0 : List Value}
  (hrel : ∀ {J : Nat → Prop} {u : U} {x : u.T}, deepen s.H u av = some x → (∀ b, Iv s av b → J b) → RelArgs s.W J u x l0) {v : V} {H' : HF}
  (hto : (asum sm key s.H av false).to v H') :
  CallOk P B s f l0.toArray fun t x => t.H = H' ∧ (∀ k, t.U k → s.U k ∨ (key ≤ k ∧ k < key + 16)) ∧ RelV t v x := by
 unfold asum at hto
 split at hto
 ·cases hto
 ·rename_i x hd
  split at hto
  case h_2 => cases hto
  rename_i h16
  have h16 : sm.r.owns ≤ 16 := by simpa [Nat.ble_eq] using h16
  obtain ⟨y, hy, hto⟩ := hto
  refine ⟨hS.enters, (hS.calls s.W (Iv s av) ?_ (hG.mono (fun b hb => .inl hb) (fun _ _ => rfl)) x _ y (hrel hd (fun _ hb => hb)) hy).mono ?_⟩
  ·rintro b (hb | ⟨k, r, base, hk, hr, hp⟩)
   ·exact h.ilt b hb
   ·exact h.rowlt hr hp
  ·rintro e W' ⟨l, bs, I', rfl, hbl, hI', hrs, hnd⟩
   -- what is frozen
   obtain ⟨s1, f1, f2, f3, f5, f6, f7, f8⟩ : ∃ s1 : S4, s1.H = (bif sm.r.anyD then s.H.freeze av.rows else s.H) ∧ s1.W = s.W ∧ s1.U = s.U ∧ MemOk B s1 ∧ Ext B s s1 ∧ s1.H.nx = s.H.nx ∧
     (sm.r.anyD = false ∨ ∀ b, Iv s av b → s1.I b) := by
    cases hany : sm.r.anyD with
    | false => exact ⟨s, rfl, rfl, rfl, h, Ext.refl B s, rfl, .inl rfl⟩
    | true =>
     obtain ⟨t1, g1, g2, g3, g4, g5, g6, g7⟩ := freeze_ok av.rows h
     refine ⟨t1, g1, g2, g3, g5, g6, by rw [g1, freeze_nx], .inr ?_⟩
     rintro b (hb | ⟨k, r, base, hk, hr, hp⟩)
     ·exact g6.i b hb
     ·exact g7 k hk r b base hr hp
   rw [← f2] at hbl
   obtain ⟨m2, x2⟩ := afterCall_ok f5 hbl (fun b hb => (hI' b hb).2)
   have hlo : ∀ b ∈ bs, s.W.heap.size ≤ b ∧ ¬ I' b := by
    have : ∀ {r : RU} {x : r.T} {l : List Value} {bs : List Nat}, RelRs W' I' s.W.heap.size r x l bs → ∀ b ∈ bs, s.W.heap.size ≤ b ∧ ¬ I' b := by
     have inner : ∀ {r : RU} {x : r.T} {l : List Value} {bs : List Nat}, RelR W' I' s.W.heap.size r x l bs → ∀ b ∈ bs, s.W.heap.size ≤ b ∧ ¬ I' b := by
      intro r
      induction r with
      | d u => intro x l bs h b hb; rw [h.2] at hb; cases hb
      | own u =>
       intro x l bs h b hb
       obtain ⟨v, _, _, pl, _, h2, _, h4⟩ := h
       rw [h2] at hb
       cases pl with
       | none => simp at hb
       | some p =>
        obtain ⟨b', base⟩ := p
        simp at hb
        subst hb
        obtain ⟨g1, g2, _⟩ := h4 b base rfl
        exact ⟨g1, g2⟩
      | no u => intro x l bs h b hb; rw [h.2] at hb; cases hb
      | omap u =>
       intro x l bs h b hb
       obtain ⟨b', es, clock, _, rfl, h1, h2, _⟩ := h
       simp at hb
       subst hb
       exact ⟨h1, h2⟩
      | ifc t fs => intro x l bs h b hb; rw [h.2] at hb; cases hb
      | nil => intro x l bs h b hb; rw [h.2] at hb; cases hb
      | cons p q ihp ihq =>
       intro x l bs h b hb
       obtain ⟨c1, c2, b1, b2, _, rfl, g1, g2⟩ := h
       rcases List.mem_append.1 hb with hb | hb
       ·exact ihp g1 b hb
       ·exact ihq g2 b hb
     intro r
     induction r with
     | d u => intro x l bs h; simp only [RelRs] at h
     | own u => intro x l bs h; simp only [RelRs] at h
     | no u => intro x l bs h; simp only [RelRs] at h
     | omap u => intro x l bs h; simp only [RelRs] at h
     | ifc t fs => intro x l bs h; simp only [RelRs] at h
     | nil => intro x l bs h b hb; rw [h.2] at hb; cases hb
     | cons p q ihp ihq =>
      intro x l bs h b hb
      obtain ⟨v, r, cs, b1, b2, _, rfl, g1, _, g2⟩ := h
      rcases List.mem_append.1 hb with hb | hb
      ·exact inner g1 b hb
      ·exact ihq g2 b hb
    exact this hrs
   have hnI : ∀ b ∈ bs, ¬ (s1.afterCall W' I').I b := by
    rintro b hb (h1 | ⟨h1, _⟩)
    ·exact Nat.not_le_of_lt (f5.ilt b h1) (by rw [f2]; exact (hlo b hb).1)
    ·exact (hlo b hb).2 h1
   have hrs2 : RelRs (s1.afterCall W' I').W (s1.afterCall W' I').I s.W.heap.size sm.r y l bs := hrs.to (f8.imp id (fun hf b hb => by
    rcases (hI' b hb).1 with h1 | h1
    ·exact .inl (hf b h1)
    ·exact .inr ⟨hb, by rw [f2]; exact h1⟩)) hnI
   have hfree : ∀ b ∈ bs, Free B (s1.afterCall W' I') b := fun b hb => ⟨Nat.le_trans h.bsz (hlo b hb).1, hnI b hb,
    fun k c hc e => by
     have := f5.varlt (k := k) (c := c) hc
     rw [f2] at this
     have h1 := (hlo b hb).1
     have e : s1.ρ.var k = b := e
     omega,
    fun k r b0 hr _ hp => by
     have := f5.rowlt (k := k) (r := r) hr hp
     rw [f2] at this
     have h1 := (hlo b hb).1
     omega,
    fun k i hi => by
     have := (f5.dj.inlt (k := k) (i := i) hi).1
     rw [f2] at this
     have h1 := (hlo b hb).1
     omega⟩
   obtain ⟨t, r, hv⟩ := recvs_ok (key := key) h16 m2 hrs2 h.bsz hnd hfree (by show key + sm.r.owns ≤ s1.H.nx; rw [f7]; omega) (fun k h1 h2 => by show ¬ s1.U k; rw [f3]; exact hu k h1 (by omega))
   have hH : (s1.afterCall W' I').H = (bif sm.r.anyD then s.H.freeze av.rows else s.H) := f1
   rw [hH] at r hv
   obtain ⟨rfl, rfl⟩ := hto
   refine ⟨t, _, rfl, r.W, r.m, (f6.trans x2).trans r.x, r.H, fun k hk => ?_, out_rel hv⟩
   rcases r.u k hk with hk | hk
   ·exact .inl (by rw [← f3]; exact hk)
   ·exact .inr (by omega)
theorem asum_ok {P : Program} {f : FuncId} {sm : Sum} (hS : SemOf P f sm) {B : Nat} {s : S4} (h : MemOk B s) {key : Nat} (hu : ∀ k, key ≤ k → k < key + 16 → ¬ s.U k) (hk : key + 16 ≤ s.H.nx) {T : TF} {a : Act} (hT : TRel s T a.tmps) {args : List Operand} {v : V} {H' : HF}
  (hto : (asum sm key s.H (aop.listV T args) false).to v H') :
  CallOk P B s f (args.map a.eval).toArray fun t x => t.H = H' ∧ (∀ k, t.U k → s.U k ∨ (key ≤ k ∧ k < key + 16)) ∧ RelV t v x :=
 asumV_ok hS h hu hk hT.gl (fun hd hJ => args_rel h hT hd hJ) hto
theorem argsVL_rel {B : Nat} {s : S4} (h : MemOk B s) {J : Nat → Prop} : ∀ {av : V} {l : List Value} {u : U} {x : u.T}, RelVL s av l → deepen s.H u av = some x → (∀ b, Iv s av b → J b) → RelArgs s.W J u x l
 | .nil, l, u, x, hl, hd, hJ => by
  simp only [RelVL] at hl
  subst hl
  cases u <;> simp [deepen] at hd
  rfl
 | .cons v w, l, u, x, hl, hd, hJ => by
  obtain ⟨y, r, rfl, h1, h2⟩ := hl
  cases u with
  | cons p q =>
   simp only [deepen] at hd
   split at hd
   ·rename_i y' hy
    split at hd
    ·rename_i z hz
     injection hd with hd
     subst hd
     obtain ⟨cs, g1, g2, _⟩ := deepen_cells h hy h1.toV
     refine ⟨_, _, cs, rfl, g1.mono (fun b hb => hJ b ?_) (fun _ _ => rfl), g2, argsVL_rel h h2 hz (fun b hb => hJ b ?_)⟩
     ·rcases hb with hb | ⟨k, r, base, hk, hr, hp⟩
      ·exact .inl hb
      ·exact .inr ⟨k, r, base, by simp [V.rows, hk], hr, hp⟩
     ·rcases hb with hb | ⟨k, r, base, hk, hr, hp⟩
      ·exact .inl hb
      ·exact .inr ⟨k, r, base, by simp [V.rows, hk], hr, hp⟩
    ·cases hd
   ·cases hd
  | _ => simp [deepen] at hd
 | .d _ _, _, _, _, h1, _, _ => by simp only [RelVL] at h1
 | .nilsl, _, _, _, h1, _, _ => by simp only [RelVL] at h1
 | .dfull _ _, _, _, _, h1, _, _ => by simp only [RelVL] at h1
 | .row _, _, _, _, h1, _, _ => by simp only [RelVL] at h1
 | .rsub _ _ _, _, _, _, h1, _, _ => by simp only [RelVL] at h1
 | .pvar _ _, _, _, _, h1, _, _ => by simp only [RelVL] at h1
 | .prow _ _ _, _, _, _, h1, _, _ => by simp only [RelVL] at h1
 | .pdeep _ _, _, _, _, h1, _, _ => by simp only [RelVL] at h1
 | .fn _ _ _, _, _, _, h1, _, _ => by simp only [RelVL] at h1
 | .tup _, _, _, _, h1, _, _ => by simp only [RelVL] at h1
 | .mp _, _, _, _, h1, _, _ => by simp only [RelVL] at h1
 | .mapd _ _, _, _, _, h1, _, _ => by simp only [RelVL] at h1
 | .hrow _ _ _ _ _, _, _, _, h1, _, _ => by simp only [RelVL] at h1
 | .str _, _, _, _, h1, _, _ => by simp only [RelVL] at h1
 | .drow _ _ _ _ _, _, _, _, h1, _, _ => by simp only [RelVL] at h1
 | .dsl _ _ _ _, _, _, _, h1, _, _ => by simp only [RelVL] at h1
 | .dpi _ _ _ _ _, _, _, _, h1, _, _ => by simp only [RelVL] at h1
 | .undef, _, _, _, h1, _, _ => by simp only [RelVL] at h1
end Go.Proofs.YtdokfjkihjkcmaaGreatDoor.Den
