/- append; slices cut. -/
import Derived.Test.YtdfhopakojmjkaaDoorDenH
namespace Go.Proofs.YtdfhopakojmjkaaDoor.Den
open Go Go.RowKit
set_option linter.unusedVariables false

/-- The cells of a slice, one behind the other. -/
theorem sl_cells {W : World} {J : Nat → Prop} {u : U} {xs : List u.T} {A : Option Addr} {n c : Nat} (h : SlD W J (RelD W J u) u.size xs (.slice A n c)) (h0 : 0 < n) :
    ∃ (ad : Addr) (news : List Value), A = some ad ∧ news.length = n * u.size ∧ (∀ j v, news[j]? = some v → W.cell? (ad.add j) = some v) ∧
      ∀ (i : Nat) (x : u.T), xs[i]? = some x → RelD W J u x ((news.drop (i * u.size)).take u.size) := by
  obtain ⟨A', cap, e, hn, hx⟩ := h
  injection e with e1 e2 e3
  subst e1 e2 e3
  obtain ⟨ad, _, hA, _⟩ := hx 0 _ (List.getElem?_eq_getElem h0)
  refine ⟨ad, (List.range (xs.length * u.size)).map (fun j => (W.cell? (ad.add j)).getD undef), hA, by simp, ?_, ?_⟩
  · intro j v hj
    rw [List.getElem?_map] at hj
    obtain ⟨q, hq, rfl⟩ := Option.map_eq_some_iff.1 hj
    have hq' := List.getElem?_eq_some_iff.1 hq
    obtain ⟨hlt, hq'⟩ := hq'
    simp at hlt hq'
    subst hq'
    have hz : 0 < u.size := by
      rcases Nat.eq_zero_or_pos u.size with h | h
      · rw [h] at hlt; simp at hlt
      · exact h
    have hi : j / u.size < xs.length := Nat.div_lt_of_lt_mul (by rw [Nat.mul_comm]; exact hlt)
    obtain ⟨ad', c', hA', _, _, hc, hcc⟩ := hx (j / u.size) _ (List.getElem?_eq_getElem hi)
    rw [hA] at hA'
    injection hA' with hA'
    subst hA'
    have hm : j % u.size < c'.length := by rw [hc]; exact Nat.mod_lt _ hz
    have := hcc (j % u.size) _ (List.getElem?_eq_getElem hm)
    rw [show j / u.size * u.size + j % u.size = j by rw [Nat.mul_comm]; exact Nat.div_add_mod j u.size] at this
    rw [this]
    rfl
  · intro i x hi
    obtain ⟨ad', c', hA', _, hr, hc, hcc⟩ := hx i x hi
    rw [hA] at hA'
    injection hA' with hA'
    subst hA'
    have hil := (List.getElem?_eq_some_iff.1 hi).1
    have hz2 : (i + 1) * u.size ≤ xs.length * u.size := Nat.mul_le_mul_right _ hil
    rw [Nat.succ_mul] at hz2
    have : (((List.range (xs.length * u.size)).map (fun j => (W.cell? (ad.add j)).getD undef)).drop (i * u.size)).take u.size = c' := by
      apply List.ext_getElem?
      intro q
      rw [List.getElem?_take, List.getElem?_drop]
      by_cases hq : q < u.size
      · rw [if_pos hq, List.getElem?_map, List.getElem?_range (by omega)]
        have hv := List.getElem?_eq_getElem (show q < c'.length by omega)
        rw [hv]
        simp [hcc q _ hv]
      · rw [if_neg hq, List.getElem?_eq_none (by omega)]
    rw [this]
    exact hr

/-- The elements of two slices, one behind the other, in one block. -/
theorem rowAt_two {s : S4} {u : U} {b base : Nat} {cur : Array Value} {t : TypeId} (hb : s.W.heap[b]? = some (.cells cur t (0, 0))) {xs ys : List u.T} (hs : base + (xs.length + ys.length) * u.size ≤ cur.size)
    (h1 : ∀ (i : Nat) (x : u.T), xs[i]? = some x → ∃ c, RelD s.W s.I u x c ∧ ∀ (j : Nat) (v : Value), c[j]? = some v → cur[base + i * u.size + j]? = some v)
    (h2 : ∀ (i : Nat) (x : u.T), ys[i]? = some x → ∃ c, RelD s.W s.I u x c ∧ ∀ (j : Nat) (v : Value), c[j]? = some v → cur[base + (xs.length + i) * u.size + j]? = some v) :
    RowAt s ⟨u, xs ++ ys, true⟩ b base := by
  refine ⟨cur, t, hb, by simpa using hs, fun i x hi => ?_⟩
  rcases Nat.lt_or_ge i xs.length with hlt | hge
  · have hi' : xs[i]? = some x := by
      have : (xs ++ ys)[i]? = some x := hi
      rwa [List.getElem?_append_left hlt] at this
    exact h1 i x hi'
  · have hi' : ys[i - xs.length]? = some x := by
      have : (xs ++ ys)[i]? = some x := hi
      rwa [List.getElem?_append_right hge] at this
    obtain ⟨c, hc, hcc⟩ := h2 _ x hi'
    refine ⟨c, hc, fun j v hj => ?_⟩
    have := hcc j v hj
    rw [show xs.length + (i - xs.length) = i by omega] at this
    exact this

theorem relD_chunk_cells {W : World} {J : Nat → Prop} {u : U} {x : u.T} {news : List Value} {i : Nat} (h : RelD W J u x ((news.drop (i * u.size)).take u.size)) {j : Nat} {v : Value} (hj : ((news.drop (i * u.size)).take u.size)[j]? = some v) : news[i * u.size + j]? = some v := by
  rw [List.getElem?_take] at hj
  split at hj
  · rw [List.getElem?_drop] at hj; exact hj
  · cases hj

theorem news_one {W : World} {J : Nat → Prop} {u : U} {xs : List u.T} {news : List Value} (hl : news.length = xs.length * u.size) (h : ∀ (i : Nat) (x : u.T), xs[i]? = some x → RelD W J u x ((news.drop (i * u.size)).take u.size)) : ∀ v ∈ news, v.oneCell' = true :=
  RelD.one (u := .arr xs.length u) (x := xs) (cs := news) ⟨rfl, hl, h⟩

theorem alloc_heap (W : World) (o : Obj) : (W.alloc o).heap[W.heap.size]? = some o := heap_alloc_new W o

/-- A slice in new memory: old elements, new ones, spare cells. -/
theorem grown_ok {B : Nat} {s : S4} (h : MemOk B s) {key : Nat} (hu : ¬ s.U key) (hk : key < s.H.nx) {u : U} (hz : 0 < u.size) {xs ys : List u.T} {olds news : List Value} (hlo : olds.length = xs.length * u.size) (hln : news.length = ys.length * u.size)
    (h1 : ∀ (i : Nat) (x : u.T), xs[i]? = some x → RelD s.W s.I u x ((olds.drop (i * u.size)).take u.size)) (h2 : ∀ (i : Nat) (x : u.T), ys[i]? = some x → RelD s.W s.I u x ((news.drop (i * u.size)).take u.size))
    (e : TypeId) (z : Array Value) (cap : Nat) (hcap : xs.length + ys.length ≤ cap) (hzs : z.size = u.size) :
    ∃ t : S4, t.H = s.H.setRow key ⟨u, xs ++ ys, true⟩ ∧ MemOk B t ∧ Ext B s t ∧ (∀ k, t.U k → s.U k ∨ k = key) ∧
      t.W = s.W.drew.alloc (.cells (olds.toArray ++ news.toArray ++ Builtin.zeroCells z (cap - (xs.length + ys.length))) e) ∧ RelV t (.row key) (.slice (some ⟨s.W.heap.size, 0, none⟩) (xs.length + ys.length) cap) := by
  have k1 : WKeep B s s.W.drew := wkeep_heap s rfl rfl rfl rfl
  have m1 := k1.memOk h
  have x1 := k1.ext h
  have k2 := wkeep_alloc m1 (.cells (olds.toArray ++ news.toArray ++ Builtin.zeroCells z (cap - (xs.length + ys.length))) e)
  have m2 := k2.memOk m1
  have x2 := k2.ext m1
  have hsz : (s.setW s.W.drew).W.heap.size = s.W.heap.size := rfl
  have hb : ((s.setW s.W.drew).setW (s.W.drew.alloc (.cells (olds.toArray ++ news.toArray ++ Builtin.zeroCells z (cap - (xs.length + ys.length))) e))).W.heap[s.W.heap.size]? = some (.cells (olds.toArray ++ news.toArray ++ Builtin.zeroCells z (cap - (xs.length + ys.length))) e (0, 0)) := alloc_heap s.W.drew _
  have hcs : (olds.toArray ++ news.toArray ++ Builtin.zeroCells z (cap - (xs.length + ys.length))).size = cap * u.size := by
    simp [size_zeroCells, hlo, hln, hzs]
    rw [← Nat.add_mul, ← Nat.add_mul]
    congr 1
    omega
  have hfree : Free B ((s.setW s.W.drew).setW (s.W.drew.alloc (.cells (olds.toArray ++ news.toArray ++ Builtin.zeroCells z (cap - (xs.length + ys.length))) e))) s.W.heap.size := by
    refine ⟨h.bsz, fun hI => Nat.lt_irrefl _ (h.ilt _ hI), fun k c hc => ?_, fun k r b0 hr hw hp => ?_⟩
    · exact Nat.ne_of_lt (h.varlt (k := k) (c := c) hc)
    · exact Nat.lt_irrefl _ (h.rowlt (k := k) (r := r) hr hp)
  have hrow : RowAt ((s.setW s.W.drew).setW (s.W.drew.alloc (.cells (olds.toArray ++ news.toArray ++ Builtin.zeroCells z (cap - (xs.length + ys.length))) e))) ⟨u, xs ++ ys, true⟩ s.W.heap.size 0 := by
    refine rowAt_two hb (by rw [hcs, Nat.zero_add]; exact Nat.mul_le_mul_right _ hcap) (fun i x hi => ?_) (fun i x hi => ?_)
    · have hr := h1 i x hi
      have hil := (List.getElem?_eq_some_iff.1 hi).1
      refine ⟨_, (hr.mono x1.i x1.w).mono x2.i x2.w, fun j v hj => ?_⟩
      have := relD_chunk_cells hr hj
      rw [Nat.zero_add]
      have hlt := (List.getElem?_eq_some_iff.1 this).1
      rw [Array.append_assoc, Array.getElem?_append_left (by simpa using hlt)]
      simpa using this
    · have hr := h2 i x hi
      refine ⟨_, (hr.mono x1.i x1.w).mono x2.i x2.w, fun j v hj => ?_⟩
      have := relD_chunk_cells hr hj
      have hlt := (List.getElem?_eq_some_iff.1 this).1
      rw [Nat.zero_add, Array.getElem?_append_left (by simp [hlo]; rw [Nat.add_mul]; omega), Array.getElem?_append_right (by simp [hlo]; rw [Nat.add_mul]; omega)]
      have e : (xs.length + i) * u.size + j - olds.toArray.size = i * u.size + j := by
        simp [hlo]; rw [Nat.add_mul]; omega
      rw [e]
      simpa using this
  have m3 := memOk_addRow m2 (key := key) (pl := some (s.W.heap.size, 0)) (r := ⟨u, xs ++ ys, true⟩) hu hk hz rfl (.inr ⟨_, _, rfl, hfree, hrow⟩)
  have x3 := ext_addRow (B := B) (s := (s.setW s.W.drew).setW (s.W.drew.alloc (.cells (olds.toArray ++ news.toArray ++ Builtin.zeroCells z (cap - (xs.length + ys.length))) e))) (key := key) (pl := some (s.W.heap.size, 0)) (r := ⟨u, xs ++ ys, true⟩) hu
  refine ⟨_, rfl, m3, (x1.trans x2).trans x3, fun k hk => hk, rfl, .inr ⟨[_], ?_, rfl⟩⟩
  simp only [RelC]
  refine ⟨.inr rfl, _, rfl, rfl, fun r hr => ?_⟩
  rcases addRow_row hr with ⟨_, rfl⟩ | ⟨hne, _⟩
  · refine ⟨some ⟨s.W.heap.size, 0, none⟩, cap, by simp, by simpa using hcap, .inr ⟨s.W.heap.size, 0, by simp [S4.addRow], by simp, ?_⟩⟩
    show 0 + (0 + cap) * u.size ≤ bsize _ _
    have hbs := bsize_at hb
    rw [hcs] at hbs
    refine Nat.le_of_eq (Eq.trans ?_ hbs.symm)
    rw [Nat.zero_add, Nat.zero_add]
  · exact absurd rfl hne

/-- A slice without elements and without room. -/
theorem empty_ok {B : Nat} {s : S4} (h : MemOk B s) {key : Nat} (hu : ¬ s.U key) (hk : key < s.H.nx) {u : U} (hz : 0 < u.size) (A : Option Addr) :
    ∃ t : S4, t.H = s.H.setRow key ⟨u, [], true⟩ ∧ MemOk B t ∧ Ext B s t ∧ (∀ k, t.U k → s.U k ∨ k = key) ∧ t.W = s.W ∧ RelV t (.row key) (.slice A 0 0) := by
  refine ⟨_, rfl, memOk_addRow h (key := key) (pl := none) (r := ⟨u, [], true⟩) hu hk hz rfl (.inl ⟨rfl, rfl⟩), ext_addRow hu, fun k hk => hk, rfl, .inr ⟨[_], ?_, rfl⟩⟩
  simp only [RelC]
  refine ⟨.inr rfl, _, rfl, rfl, fun r hr => ?_⟩
  rcases addRow_row hr with ⟨_, rfl⟩ | ⟨hne, _⟩
  · exact ⟨A, 0, rfl, Nat.le_refl _, .inl rfl⟩
  · exact absurd rfl hne

theorem run_append_none {P : Program} {W : World} {t ty e : TypeId} {i : TypeInfo} (ht : P.underlying t = some (.slice e)) (hi : P.info? e = some i) (A Ay : Option Addr) (n c cy : Nat) (hn : n ≤ c) :
    (Builtin.append_ #[t, t] ty #[.slice A n c, .slice Ay 0 cy]).run P W = .ok (.slice A n c) W := by
  cases Ay <;> cases A <;> simp [Builtin.append_, run_underlying ht, sizeOf, typeInfo, hi, Builtin.lenOf, Builtin.firstCells, hn, loadCells, loadCellsFrom, storeCells]

theorem run_append_here {P : Program} {W : World} {t ty e : TypeId} {i : TypeInfo} (ht : P.underlying t = some (.slice e)) (hi : P.info? e = some i) {b o n c : Nat} {cur : Array Value} {te : TypeId} (hb : W.heap[b]? = some (.cells cur te (0, 0)))
    (ad : Addr) (m cy : Nat) (news : List Value) (hl : news.length = m * i.size) (hnews : ∀ j v, news[j]? = some v → W.cell? (ad.add j) = some v) (h1 : ∀ v ∈ news, v.oneCell' = true) (hroom : n + m ≤ c) (hfit : o + n * i.size + news.length ≤ cur.size) :
    ∃ W', (Builtin.append_ #[t, t] ty #[.slice (some ⟨b, o, none⟩) n c, .slice (some ad) m cy]).run P W = .ok (.slice (some ⟨b, o, none⟩) (n + m) c) W' ∧ WSet W W' b (splice cur.toList (o + n * i.size) news).toArray := by
  obtain ⟨W', hr, hw⟩ := run_storeCells_at P (b := b) (o := o + n * i.size) news 0 W cur hb (by simpa using hfit) h1
  refine ⟨W', ?_, by simpa using hw⟩
  have hf : (Builtin.firstCells i.size m (.slice (some ad) m cy)).run P W = .ok news.toArray W := by
    simp only [Builtin.firstCells]
    rw [← hl]
    exact run_loadCells P W ad news hnews
  simp [Builtin.append_, run_underlying ht, sizeOf, typeInfo, hi, Builtin.lenOf, hroom, hf, addr_add, hr]

theorem sl_of_deepen {B : Nat} {s : S4} (h : MemOk B s) {u : U} {v : V} {ys : List u.T} {x : Value} (hx : RelV s v x) (hd : deepen s.H (.sl u) v = some ys) : SlD s.W (Iv s v) (RelD s.W (Iv s v) u) u.size ys x := by
  have hn : v ≠ .undef ∧ ∀ w, v ≠ .tup w := by
    constructor
    · rintro rfl; simp [deepen] at hd
    · rintro w rfl; simp [deepen] at hd
  obtain ⟨cs, hr, hv⟩ := hx.get hn.1 hn.2
  obtain ⟨y, rfl, hy⟩ := deepen_rel h hd hr
  have hg : v.agg = false := by
    cases v <;> try rfl
    · rename_i u' x'
      have hd : castT (.sl u) x' = some ys := by simpa [deepen] using hd
      obtain ⟨e, _⟩ := castT_some hd
      subst e
      rfl
    · simp [deepen] at hd
    · simp [deepen] at hd
  rw [isVal_one hv hg]
  exact hy
/-- The elements of a row that is spoken of lie in what is read, or in that row: what they hold lies in what is read. -/
theorem sl_elems {B : Nat} {s : S4} (h : MemOk B s) {u : U} {v : V} {ys : List u.T} {x : Value} (hx : RelV s v x) (hd : deepen s.H (.sl u) v = some ys) {A : Option Addr} {n c : Nat} (hs : x = .slice A n c) (h0 : 0 < n) :
    ∃ (ad : Addr) (news : List Value), A = some ad ∧ news.length = n * u.size ∧ (∀ j w, news[j]? = some w → s.W.cell? (ad.add j) = some w) ∧
      (∀ (i : Nat) (y : u.T), ys[i]? = some y → RelD s.W s.I u y ((news.drop (i * u.size)).take u.size)) := by
  subst hs
  have key : ∀ {J : Nat → Prop} {k : Nat} {r : Row} (hr : s.H.row k = some r) (o m : Nat) (hm : o + m ≤ r.xs.length) (hv : RowV s.W (s.ρ.row k) r.u.size o m (.slice A n c)) (hu : r.u = u), ∀ zs : List u.T, hu ▸ ((r.xs.drop o).take m) = zs →
      ∃ (ad : Addr) (news : List Value), A = some ad ∧ news.length = n * u.size ∧ (∀ j w, news[j]? = some w → s.W.cell? (ad.add j) = some w) ∧ (∀ (i : Nat) (y : u.T), zs[i]? = some y → RelD s.W s.I u y ((news.drop (i * u.size)).take u.size)) := by
    intro J k r hr o m hm hv hu zs hz
    subst hu
    have hz : (r.xs.drop o).take m = zs := hz
    subst hz
    obtain ⟨A', cap, e, hn, hc⟩ := hv
    injection e with e1 e2 e3
    subst e1 e2 e3
    rcases hc with hc | ⟨b, base, hp, hA, hsz⟩
    · omega
    · obtain ⟨_, hzp, h3⟩ := h.row k r hr
      rcases h3 with h3 | ⟨b', base', cur, t, e, hh, _, _, hs2, hx2⟩
      · rw [h3.2] at hp; cases hp
      · have he := e
        rw [hp] at he
        injection he with he
        injection he with e1 e2
        subst e1 e2
        have hb1 : (o + n) * r.u.size ≤ r.xs.length * r.u.size := Nat.mul_le_mul_right _ hm
        rw [Nat.add_mul] at hb1
        refine ⟨_, (cur.toList.drop (base + o * r.u.size)).take (n * r.u.size), hA, by simp; omega, fun j w hj => ?_, fun i y hi => ?_⟩
        · rw [List.getElem?_take] at hj
          split at hj
          · rw [List.getElem?_drop] at hj
            rw [addr_add, cell_at hh]
            simpa using hj
          · cases hj
        · have hin : i < n := by
            have := (List.getElem?_eq_some_iff.1 hi).1
            simp at this
            omega
          rw [List.getElem?_take, if_pos hin, List.getElem?_drop] at hi
          obtain ⟨c', hc', hcc⟩ := hx2 _ y hi
          have hi1 : (i + 1) * r.u.size ≤ n * r.u.size := Nat.mul_le_mul_right _ hin
          rw [Nat.succ_mul] at hi1
          have : ((((cur.toList.drop (base + o * r.u.size)).take (n * r.u.size)).drop (i * r.u.size)).take r.u.size) = c' := by
            apply List.ext_getElem?
            intro q
            rw [List.getElem?_take]
            by_cases hq : q < r.u.size
            · rw [if_pos hq, List.getElem?_drop, List.getElem?_take, if_pos (by omega), List.getElem?_drop]
              have hv := List.getElem?_eq_getElem (show q < c'.length by rw [hc'.len]; exact hq)
              rw [hv]
              have := hcc q _ hv
              rw [Nat.add_mul] at this
              rw [show base + o * r.u.size + (i * r.u.size + q) = base + (o * r.u.size + i * r.u.size) + q by omega]
              simpa using this
            · rw [if_neg hq, List.getElem?_eq_none (by rw [hc'.len]; omega)]
          rw [this]
          exact hc'
  cases v with
  | d u' x' =>
    have hd' : castT (.sl u) x' = some ys := by simpa [deepen] using hd
    obtain ⟨e, he⟩ := castT_some hd'
    subst e
    have he : x' = ys := by simpa using he
    subst he
    obtain ⟨ad, news, a1, a2, a3, a4⟩ := sl_cells (relV_sl hx) h0
    exact ⟨ad, news, a1, a2, a3, a4⟩
  | dfull u' x' =>
    simp only [deepen] at hd
    obtain ⟨e, he⟩ := castT_some hd
    injection e with e
    subst e
    have he : x' = ys := by simpa using he
    subst he
    obtain ⟨ad, news, a1, a2, a3, a4⟩ := sl_cells (relV_dfull hx).1 h0
    exact ⟨ad, news, a1, a2, a3, a4⟩
  | nilsl =>
    obtain ⟨cs, h1, h2⟩ := hx.get (by intro h; cases h) (by intro w h; cases h)
    simp only [RelC] at h1
    subst h1
    have := isVal_one h2 rfl
    injection this with _ e
    omega
  | row k =>
    simp only [deepen] at hd
    cases hk : s.H.row k with
    | none => rw [hk] at hd; cases hd
    | some r =>
      rw [hk] at hd
      simp only at hd
      obtain ⟨e, he⟩ := castT_some hd
      injection e with e
      obtain ⟨_, _, hv⟩ := relV_row hx
      refine key (J := s.I) hk 0 r.xs.length (by omega) (hv r hk) e ys ?_
      subst e
      simpa using he
  | rsub k o m =>
    simp only [deepen] at hd
    cases hk : s.H.row k with
    | none => rw [hk] at hd; cases hd
    | some r =>
      rw [hk] at hd
      simp only at hd
      obtain ⟨e, he⟩ := castT_some hd
      injection e with e
      obtain ⟨_, _, hv⟩ := relV_rsub hx
      refine key (J := s.I) hk o m (hv r hk).1 (hv r hk).2 e ys ?_
      subst e
      simpa using he
  | _ => simp [deepen] at hd
end Go.Proofs.YtdfhopakojmjkaaDoor.Den
