/- New memory and plain operations. -/
import Derived.Test.YtdfhopakojmjkaaDoorDenJ
namespace Go.Proofs.YtdfhopakojmjkaaDoor.Den
open Go Go.RowKit
set_option linter.unusedVariables false

/-! ### cells put into cells -/
theorem splice_step {cs vs : List Value} {v : Value} {o : Nat} (h : o + (vs.length + 1) ≤ cs.length) : splice (cs.set o v) (o + 1) vs = splice cs o (v :: vs) := by
  apply List.ext_getElem?
  intro j
  rw [splice_get (by simp; omega), splice_get (by simp; omega)]
  by_cases hj : j = o
  · subst hj
    rw [if_neg (by omega), if_pos (by simp)]
    simp only [Nat.sub_self, List.getElem?_cons_zero]
    rw [List.getElem?_set_self (by omega)]
  · by_cases hj2 : o + 1 ≤ j ∧ j < o + 1 + vs.length
    · rw [if_pos hj2, if_pos (by simp; omega)]
      obtain ⟨q, hq⟩ : ∃ q, j - o = q + 1 := ⟨j - o - 1, by omega⟩
      rw [hq, List.getElem?_cons_succ]
      congr 1
      omega
    · rw [if_neg hj2, if_neg (by simp; omega)]
      rw [List.getElem?_set_ne (by omega)]
theorem fold_splice : ∀ (vs : List Value) (n : Nat) (cells : Array Value) (off : Nat), off + n + vs.length ≤ cells.size →
    (vs.zipIdx n).foldl (fun cs (p : Value × Nat) => cs.setIfInBounds (off + p.2) p.1) cells = (splice cells.toList (off + n) vs).toArray
  | [], n, cells, off, h => by simp [splice]
  | v :: vs, n, cells, off, h => by
    simp only [List.length_cons] at h
    rw [List.zipIdx_cons, List.foldl_cons, fold_splice vs (n + 1) (cells.setIfInBounds (off + n) v) off (by simp; omega)]
    rw [Array.toList_setIfInBounds, show off + (n + 1) = off + n + 1 by omega, splice_step (by simp; omega)]
theorem fill_cons {place : Nat → Option (Nat × Nat)} {cells : Array Value} {i : Nat} {v : Value} {vs : List Value} {rest : List (Nat × Value)} {off size : Nat} (hp : place i = some (off, size)) (hv : v.cells = vs.toArray) (hl : vs.length = size)
    (ho : off + size ≤ cells.size) : Instr.fill place cells ((i, v) :: rest) = Instr.fill place (splice cells.toList off vs).toArray rest := by
  have hf : (v.cells.zipIdx.foldl (fun cs (c, j) => cs.setIfInBounds (off + j) c) cells) = (splice cells.toList off vs).toArray := by
    have := fold_splice vs 0 cells off (by omega)
    rw [Nat.add_zero] at this
    rw [hv, ← this, ← Array.foldl_toList, Array.toList_zipIdx]
  simp only [Instr.fill, hp]
  rw [if_neg (by rw [hv]; simp; omega), hf]

/-! ### new memory -/
theorem free_new {B : Nat} {s : S4} (h : MemOk B s) (o : Obj) : Free B (s.setW (s.W.alloc o)) s.W.heap.size :=
  ⟨h.bsz, fun hI => Nat.lt_irrefl _ (h.ilt _ hI), fun k c hc => Nat.ne_of_lt (h.varlt (k := k) (c := c) hc), fun k r b0 hr hw hp => Nat.lt_irrefl _ (h.rowlt (k := k) (r := r) hr hp)⟩
theorem newVar_ok {B : Nat} {s : S4} (h : MemOk B s) {key : Nat} (hu : ¬ s.U key) (hk : key < s.H.nx) {c : V} {cs : Array Value} (hc : RelC s c cs.toList) (e : TypeId) :
    ∃ t : S4, t.H = s.H.setVar key c ∧ MemOk B t ∧ Ext B s t ∧ (∀ k, t.U k → s.U k ∨ k = key) ∧ t.W = s.W.alloc (.cells cs e) ∧ RelV t (.pvar key []) (.pointer (some ⟨s.W.heap.size, 0, none⟩)) := by
  have k2 := wkeep_alloc h (.cells cs e)
  have m2 := k2.memOk h
  have x2 := k2.ext h
  have hb : (s.setW (s.W.alloc (.cells cs e))).W.heap[s.W.heap.size]? = some (.cells cs e (0, 0)) := alloc_heap s.W _
  have m3 := memOk_addVar m2 (key := key) (b := s.W.heap.size) hu hk (free_new h _) hb (RelC.ext x2 hc)
  refine ⟨_, rfl, m3, x2.trans (ext_addVar hu), fun k hk => hk, rfl, .inr ⟨[_], ?_, rfl⟩⟩
  simp only [RelC]
  refine ⟨.inr rfl, _, rfl, rfl, fun c' hc' => ?_⟩
  rcases addVar_var hc' with ⟨_, rfl⟩ | ⟨hne, _⟩
  · exact ⟨0, off_nil, by simp [S4.addVar]⟩
  · exact absurd rfl hne
theorem newRow_ok {B : Nat} {s : S4} (h : MemOk B s) {key : Nat} (hu : ¬ s.U key) (hk : key < s.H.nx) {u : U} (hz : 0 < u.size) {xs : List u.T} {cells : Array Value} (hl : cells.size = xs.length * u.size)
    (h1 : ∀ (i : Nat) (x : u.T), xs[i]? = some x → RelD s.W s.I u x ((cells.toList.drop (i * u.size)).take u.size)) (e : TypeId) :
    ∃ t : S4, t.H = s.H.setRow key ⟨u, xs, true⟩ ∧ MemOk B t ∧ Ext B s t ∧ (∀ k, t.U k → s.U k ∨ k = key) ∧
      t.W = s.W.alloc (.cells cells e) ∧ RelV t (.row key) (.slice (some ⟨s.W.heap.size, 0, none⟩) xs.length xs.length) := by
  have k2 := wkeep_alloc h (.cells cells e)
  have m2 := k2.memOk h
  have x2 := k2.ext h
  have hb : (s.setW (s.W.alloc (.cells cells e))).W.heap[s.W.heap.size]? = some (.cells cells e (0, 0)) := alloc_heap s.W _
  have hrow : RowAt (s.setW (s.W.alloc (.cells cells e))) ⟨u, xs, true⟩ s.W.heap.size 0 := by
    refine ⟨cells, e, hb, by show 0 + xs.length * u.size ≤ cells.size; omega, fun i x hi => ?_⟩
    refine ⟨_, (h1 i x hi).mono x2.i x2.w, fun j v hj => ?_⟩
    have := relD_chunk_cells (h1 i x hi) hj
    rw [Nat.zero_add]
    simpa using this
  have m3 := memOk_addRow m2 (key := key) (pl := some (s.W.heap.size, 0)) (r := ⟨u, xs, true⟩) hu hk hz rfl (.inr ⟨_, _, rfl, free_new h _, hrow⟩)
  refine ⟨_, rfl, m3, x2.trans (ext_addRow hu), fun k hk => hk, rfl, .inr ⟨[_], ?_, rfl⟩⟩
  simp only [RelC]
  refine ⟨.inr rfl, _, rfl, rfl, fun r hr => ?_⟩
  rcases addRow_row hr with ⟨_, rfl⟩ | ⟨hne, _⟩
  · refine ⟨some ⟨s.W.heap.size, 0, none⟩, xs.length, rfl, Nat.le_refl _, .inr ⟨s.W.heap.size, 0, by simp [S4.addRow], by simp, ?_⟩⟩
    show 0 + (0 + xs.length) * u.size ≤ bsize _ _
    have hbs := bsize_at hb
    refine Nat.le_of_eq (Eq.trans ?_ hbs.symm)
    rw [Nat.zero_add, Nat.zero_add, hl]
  · exact absurd rfl hne

/-- The zero value's cells. -/
theorem zeroV_rel {s : S4} : ∀ u : U, RelC s (zeroV u) (zcells u)
  | .int k => by simp [zeroV, RelC, RelD, zcells, U.zero]
  | .bool => by simp [zeroV, RelC, RelD, zcells, U.zero]
  | .sl u => by simp [zeroV, RelC, zcells]
  | .arr n u => by
    simp only [zeroV, RelC]
    exact RelD.zero s.W s.I (.arr n u)
  | .nil => by simp [zeroV, RelC, zcells]
  | .cons a b => by
    simp only [zeroV, RelC]
    exact ⟨_, _, rfl, zeroV_rel a, zeroV_rel b⟩
theorem zeroV_sk : ∀ u : U, (zeroV u).sk = u.sk
  | .int _ => rfl
  | .bool => rfl
  | .sl _ => rfl
  | .arr _ _ => rfl
  | .nil => rfl
  | .cons a b => by simp [zeroV, V.sk, U.sk, zeroV_sk a, zeroV_sk b]

theorem made_get (z : Array Value) (n q : Nat) (hq : q < n) (hz : 0 < z.size) : (madeCells z n)[q]? = z[q % z.size]? := by
  simp only [madeCells, Array.getElem?_map, Array.getElem?_range, hq, if_true, Option.map_some]
  rw [Array.getElem!_eq_getD, Array.getD_eq_getD_getElem?, Array.getElem?_eq_getElem (Nat.mod_lt _ hz)]
  rfl
theorem made_chunk (z : Array Value) (n i : Nat) (hi : i < n) (hz : 0 < z.size) : ((madeCells z (n * z.size)).toList.drop (i * z.size)).take z.size = z.toList := by
  apply List.ext_getElem?
  intro j
  rw [List.getElem?_take]
  split
  · rename_i hj
    have h1 : (i + 1) * z.size ≤ n * z.size := Nat.mul_le_mul_right _ hi
    rw [Nat.succ_mul] at h1
    rw [List.getElem?_drop, Array.getElem?_toList, made_get _ _ _ (by omega) hz, Array.getElem?_toList]
    congr 1
    rw [Nat.mul_comm, Nat.mul_add_mod, Nat.mod_eq_of_lt hj]
  · rename_i hj
    rw [List.getElem?_eq_none]
    simp
    omega

/-! ### what deepens is a value -/
theorem deepen_not {H : HF} {u : U} {v : V} {x : u.T} (h : deepen H u v = some x) : v ≠ .undef ∧ ∀ w, v ≠ .tup w := by
  constructor
  · rintro rfl
    cases u <;> simp [deepen] at h
  · rintro w rfl
    cases u <;> simp [deepen] at h
theorem deepen_sk {H : HF} : ∀ {u : U} {v : V} {x : u.T}, deepen H u v = some x → v.sk = u.sk
  | u, .d u' y, x, h => by
    simp only [deepen] at h
    obtain ⟨e, _⟩ := castT_some h
    subst e
    rfl
  | .cons a b, .cons va vb, x, h => by
    simp only [deepen] at h
    split at h
    · rename_i y hy
      split at h
      · rename_i z hz
        simp only [V.sk, U.sk]
        rw [deepen_sk hy, deepen_sk hz]
      · cases h
    · cases h
  | .nil, .nil, _, _ => rfl
  | .sl u, .nilsl, _, _ => rfl
  | .sl u, .dfull _ _, _, _ => rfl
  | .sl u, .row _, _, _ => rfl
  | .sl u, .rsub _ _ _, _, _ => rfl
  | .int _, .cons _ _, _, h => by simp [deepen] at h
  | .int _, .nil, _, h => by simp [deepen] at h
  | .int _, .nilsl, _, h => by simp [deepen] at h
  | .int _, .dfull _ _, _, h => by simp [deepen] at h
  | .int _, .row _, _, h => by simp [deepen] at h
  | .int _, .rsub _ _ _, _, h => by simp [deepen] at h
  | .bool, .cons _ _, _, h => by simp [deepen] at h
  | .bool, .nil, _, h => by simp [deepen] at h
  | .bool, .nilsl, _, h => by simp [deepen] at h
  | .bool, .dfull _ _, _, h => by simp [deepen] at h
  | .bool, .row _, _, h => by simp [deepen] at h
  | .bool, .rsub _ _ _, _, h => by simp [deepen] at h
  | .sl _, .cons _ _, _, h => by simp [deepen] at h
  | .sl _, .nil, _, h => by simp [deepen] at h
  | .arr _ _, .cons _ _, _, h => by simp [deepen] at h
  | .arr _ _, .nil, _, h => by simp [deepen] at h
  | .arr _ _, .nilsl, _, h => by simp [deepen] at h
  | .arr _ _, .dfull _ _, _, h => by simp [deepen] at h
  | .arr _ _, .row _, _, h => by simp [deepen] at h
  | .arr _ _, .rsub _ _ _, _, h => by simp [deepen] at h
  | .nil, .cons _ _, _, h => by simp [deepen] at h
  | .nil, .nilsl, _, h => by simp [deepen] at h
  | .nil, .dfull _ _, _, h => by simp [deepen] at h
  | .nil, .row _, _, h => by simp [deepen] at h
  | .nil, .rsub _ _ _, _, h => by simp [deepen] at h
  | .cons _ _, .nil, _, h => by simp [deepen] at h
  | .cons _ _, .nilsl, _, h => by simp [deepen] at h
  | .cons _ _, .dfull _ _, _, h => by simp [deepen] at h
  | .cons _ _, .row _, _, h => by simp [deepen] at h
  | .cons _ _, .rsub _ _ _, _, h => by simp [deepen] at h
  | u, .pvar _ _, _, h => by cases u <;> simp [deepen] at h
  | u, .prow _ _ _, _, h => by cases u <;> simp [deepen] at h
  | u, .pdeep _ _, _, h => by cases u <;> simp [deepen] at h
  | u, .fn _ _ _, _, h => by cases u <;> simp [deepen] at h
  | u, .tup _, _, h => by cases u <;> simp [deepen] at h
  | u, .undef, _, h => by cases u <;> simp [deepen] at h
/-- What is told as plain data, at its cells. -/
theorem deepen_cells {B : Nat} {s : S4} (h : MemOk B s) {u : U} {v : V} {x : u.T} {y : Value} (hd : deepen s.H u v = some x) (hy : RelV s v y) :
    ∃ cs, RelD s.W (Iv s v) u x cs ∧ IsVal u.agg cs y ∧ y.cells = cs.toArray := by
  obtain ⟨cs, h1, h2⟩ := hy.get (deepen_not hd).1 (deepen_not hd).2
  have e : v.agg = u.agg := by unfold V.agg; rw [deepen_sk hd, U.sk_agg]
  have hr := deepen_rel h hd h1
  exact ⟨cs, hr, by rw [← e]; exact h2, isVal_cells h2 h1.one⟩

/-! ### slices of so many parts -/
def Chunks (W : World) (J : Nat → Prop) (u : U) (xs : List u.T) (cells : Array Value) : Prop :=
  cells.size = xs.length * u.size ∧ ∀ (i : Nat) (x : u.T), xs[i]? = some x → RelD W J u x ((cells.toList.drop (i * u.size)).take u.size)
theorem chunk_other {cs vs : List Value} {z i q : Nat} (hi : i * z + z ≤ cs.length) (hl : vs.length = z) (hne : q ≠ i) : ((splice cs (i * z) vs).drop (q * z)).take z = (cs.drop (q * z)).take z := by
  apply List.ext_getElem?
  intro j
  rw [List.getElem?_take, List.getElem?_take]
  split
  · rename_i hj
    rw [List.getElem?_drop, List.getElem?_drop, splice_get (by omega), if_neg]
    rintro ⟨g1, g2⟩
    rcases Nat.lt_or_gt_of_ne hne with hq | hq
    · have := Nat.mul_le_mul_right z (show q + 1 ≤ i from hq)
      rw [Nat.succ_mul] at this
      omega
    · have := Nat.mul_le_mul_right z (show i + 1 ≤ q from hq)
      rw [Nat.succ_mul] at this
      omega
  · rfl
theorem chunk_same {cs vs : List Value} {z i : Nat} (hi : i * z + z ≤ cs.length) (hl : vs.length = z) : ((splice cs (i * z) vs).drop (i * z)).take z = vs := by
  apply List.ext_getElem?
  intro j
  rw [List.getElem?_take]
  split
  · rw [List.getElem?_drop, splice_get (by omega), if_pos (by omega)]
    congr 1
    omega
  · rw [List.getElem?_eq_none (by omega)]
theorem fillV_ok {B : Nat} {s : S4} (h : MemOk B s) {T : TF} {a : Act} (hT : TRel s T a.tmps) {u : U} {J : Nat → Prop} (hJ : ∀ b, s.I b → J b) : ∀ (ps : List (Nat × Operand)) (xs ys : List u.T) (cells : Array Value), fillV s.H T u ps xs = some ys →
    (∀ k r b base, k ∈ rowsOfs T ps → s.H.row k = some r → s.ρ.row k = some (b, base) → J b) → Chunks s.W J u xs cells →
    ∃ cells', Instr.fill (fun i => some (i * u.size, u.size)) cells (ps.map fun (i, x) => (i, a.eval x)) = some cells' ∧ Chunks s.W J u ys cells' ∧ ys.length = xs.length
  | [], xs, ys, cells, hf, hr, hc => by
    simp only [fillV] at hf
    injection hf with hf
    subst hf
    exact ⟨cells, rfl, hc, rfl⟩
  | (i, x) :: ps, xs, ys, cells, hf, hr, hc => by
    simp only [fillV] at hf
    split at hf
    · rename_i y hy
      split at hf
      · rename_i hi
        have hi : i < xs.length := of_decide_eq_true (by simpa [Nat.blt_eq] using hi)
        obtain ⟨cs, g1, g2, g3⟩ := deepen_cells h hy (evO_rel hT x)
        have hm : (i + 1) * u.size ≤ xs.length * u.size := Nat.mul_le_mul_right _ hi
        rw [Nat.succ_mul] at hm
        have hin : i * u.size + u.size ≤ cells.size := by rw [hc.1]; exact hm
        have g1' : RelD s.W J u y cs := g1.mono (fun b hb => by
          rcases hb with hb | ⟨k, r, base, hk, hkr, hkp⟩
          · exact hJ b hb
          · exact hr k r b base (by simp [rowsOfs, hk]) hkr hkp) (fun _ _ => rfl)
        have hfl := fill_cons (place := fun i => some (i * u.size, u.size)) (i := i) (rest := ps.map fun (i, x) => (i, a.eval x)) rfl g3 g1.len hin
        obtain ⟨cells', e1, e2, e3⟩ := fillV_ok h hT hJ ps (xs.set i y) ys (splice cells.toList (i * u.size) cs).toArray hf (fun k r b base hk => hr k r b base (by simp [rowsOfs, hk])) (by
          refine ⟨by simp [splice_len (cs := cells.toList) (vs := cs) (o := i * u.size) (by rw [g1.len]; simpa using hin), hc.1], fun q z hq => ?_⟩
          by_cases hqi : q = i
          · subst hqi
            rw [List.getElem?_set_self hi] at hq
            injection hq with hq
            subst hq
            show RelD s.W J u _ (((splice cells.toList (q * u.size) cs).drop (q * u.size)).take u.size)
            rw [chunk_same (by simpa using hin) g1.len]
            exact g1'
          · rw [List.getElem?_set_ne (by omega)] at hq
            show RelD s.W J u _ (((splice cells.toList (i * u.size) cs).drop (q * u.size)).take u.size)
            rw [chunk_other (by simpa using hin) g1.len hqi]
            exact hc.2 q z hq)
        exact ⟨cells', by rw [List.map_cons]; exact hfl.trans e1, e2, by rw [e3]; simp⟩
      · cases hf
    · cases hf

/-! ### structs of their fields -/
theorem get_fld_off : ∀ {c : V} {i : Nat} {v : V}, c.get [.fld i] = some v → ∃ o, c.sk.off [.fld i] = some o
  | .cons a b, 0, v, h => ⟨0, by simp [V.sk, U.off, off_nil]⟩
  | .cons a b, i + 1, v, h => by
    simp only [V.get] at h
    obtain ⟨o, ho⟩ := get_fld_off h
    exact ⟨a.sk.size + o, by simp [V.sk, U.off, ho]⟩
  | .d u x, i, v, h => by
    simp only [V.get] at h
    split at h
    · rename_i w y hd
      have : ∀ {u : U} {x : u.T} {i : Nat} {w : U} {y : w.T}, dget u x [.fld i] = some ⟨w, y⟩ → ∃ o, u.off [.fld i] = some o := by
        intro u
        induction u with
        | cons a b iha ihb =>
          intro x i w y h
          cases i with
          | zero => exact ⟨0, by simp [U.off, off_nil]⟩
          | succ i =>
            simp only [dget] at h
            obtain ⟨o, ho⟩ := ihb h
            exact ⟨a.size + o, by simp [U.off, ho]⟩
        | _ => intro x i w y h; simp [dget] at h
      obtain ⟨o, ho⟩ := this hd
      exact ⟨o, by simp only [V.sk]; rw [sk_off]; exact ho⟩
    · cases h
  | .nil, i, v, h => by simp [V.get] at h
  | .nilsl, i, v, h => by simp [V.get] at h
  | .dfull _ _, i, v, h => by simp [V.get] at h
  | .row _, i, v, h => by simp [V.get] at h
  | .rsub _ _ _, i, v, h => by simp [V.get] at h
  | .pvar _ _, i, v, h => by simp [V.get] at h
  | .prow _ _ _, i, v, h => by simp [V.get] at h
  | .pdeep _ _, i, v, h => by simp [V.get] at h
  | .fn _ _ _, i, v, h => by simp [V.get] at h
  | .tup _, i, v, h => by simp [V.get] at h
  | .undef, i, v, h => by simp [V.get] at h
theorem buildFs_ok {s : S4} {T : TF} {a : Act} (hT : TRel s T a.tmps) {p q : U} {places : List (Nat × Nat)} (hpl : ∀ f o, (U.cons p q).off [.fld f] = some o → ∃ u, dcode (.cons p q) [.fld f] = some u ∧ places.toArray[f]? = some (o, u.size)) :
    ∀ (ps : List (Nat × Operand)) (v w : V) (cells : Array Value), buildFs T ps v = some w → v.sk = (U.cons p q).sk → RelC s v cells.toList →
    ∃ cells', Instr.fill (places.toArray[·]?) cells (ps.map fun (i, x) => (i, a.eval x)) = some cells' ∧ w.sk = (U.cons p q).sk ∧ RelC s w cells'.toList
  | [], v, w, cells, hb, hs, hc => by
    simp only [buildFs] at hb
    injection hb with hb
    subst hb
    exact ⟨cells, rfl, hs, hc⟩
  | (i, x) :: ps, v, w, cells, hb, hs, hc => by
    simp only [buildFs] at hb
    split at hb
    · rename_i old hold
      split at hb
      · rename_i hq
        split at hb
        · rename_i v' hset
          simp only [Bool.and_eq_true] at hq
          have hsk := of_decide_eq_true hq.1
          obtain ⟨o, ho⟩ := get_fld_off hold
          obtain ⟨g1, g2⟩ := get_rel hold hc ho
          obtain ⟨vs, hv, hval⟩ := (evO_rel hT x).get (cell_not hq.2).1 (cell_not hq.2).2
          rw [hsk] at g1
          obtain ⟨s1, s2⟩ := set_rel hset hc hv ho g1
          have ho' : (U.cons p q).off [.fld i] = some o := by rw [hs, sk_off] at ho; exact ho
          obtain ⟨u, hu1, hu2⟩ := hpl i o ho'
          have hsz : vs.length = u.size := by
            rw [hv.len]
            rw [hs, sk_dcode, hu1] at g1
            simp only [Option.map_some] at g1
            injection g1 with g1
            unfold V.size
            rw [← g1, U.sk_size]
          have hin : o + u.size ≤ cells.size := by
            have := dcode_off hu1 ho'
            have hl := hc.len
            unfold V.size at hl
            rw [hs, U.sk_size] at hl
            simp at hl
            omega
          have hfl := fill_cons (place := (places.toArray[·]?)) (i := i) (rest := ps.map fun (i, x) => (i, a.eval x)) hu2 (isVal_cells hval hv.one) hsz hin
          obtain ⟨cells', e1, e2, e3⟩ := buildFs_ok hT hpl ps v' w (splice cells.toList o vs).toArray hb (s1.trans hs) (by simpa using s2)
          exact ⟨cells', by rw [List.map_cons]; exact hfl.trans e1, e2, e3⟩
        · cases hb
      · cases hb
    · cases hb
end Go.Proofs.YtdfhopakojmjkaaDoor.Den
