/- append, whole; slices cut. -/
import Derived.Test.YtdfhopakojmjkaaDoorDenI
namespace Go.Proofs.YtdfhopakojmjkaaDoor.Den
open Go Go.RowKit
set_option linter.unusedVariables false

/-- A free block is written: nobody sees it. -/
theorem ext_freeSet {B : Nat} {s : S4} (h : MemOk B s) {b : Nat} (hf : Free B s b) {W' : World} {cs : Array Value} (hw : WSet s.W W' b cs) : Ext B s (s.setW W') where
  i := fun _ h => h
  inew := fun _ h => .inl h
  w := fun x hx => hw.other x (fun e => hf.i (e ▸ hx))
  below := hw.below hf.B
  u := fun _ h => h
  nx := Nat.le_refl _
  var := fun x c _ hc => ⟨c, hc, rfl, rfl⟩
  row := fun x r _ hr => ⟨r, hr, rfl, rfl, rfl, fun b' _ _ => hw.bsize b'⟩
theorem memOk_freeSet {B : Nat} {s : S4} (h : MemOk B s) {b : Nat} (hf : Free B s b) {W' : World} {cs : Array Value} (hw : WSet s.W W' b cs) : MemOk B (s.setW W') := by
  have e := ext_freeSet h hf hw
  refine ⟨fun x hx => by show x < W'.heap.size; rw [hw.size]; exact h.ilt x hx, by show B ≤ W'.heap.size; rw [hw.size]; exact h.bsz, h.un, ?_, ?_, h.vv, h.rr, h.vr⟩
  · intro k c hc
    obtain ⟨h1, h2, h3, cs, t, h4, h5⟩ := h.var k c hc
    exact ⟨h1, h2, h3, cs, t, (hw.other _ (hf.var k c hc)).trans h4, RelC.ext e h5⟩
  · intro k r hr
    obtain ⟨h1, h2, h3⟩ := h.row k r hr
    refine ⟨h1, h2, h3.imp id ?_⟩
    rintro ⟨b', base, cur, t, e', hh, hw', hf', hs, hx⟩
    have hne : b' ≠ b := by
      rintro rfl
      cases hrw : r.w with
      | true => exact hf.row k r base hr hrw e'
      | false => exact hf.i (hf' hrw)
    exact ⟨b', base, cur, t, e', (hw.other _ hne).trans hh, hw', hf', hs, fun i x hi => by
      obtain ⟨c, hc, hcc⟩ := hx i x hi
      exact ⟨c, hc.mono e.i e.w, hcc⟩⟩
theorem free_setW {B : Nat} {s : S4} {b : Nat} (hf : Free B s b) (W' : World) : Free B (s.setW W') b := ⟨hf.B, hf.i, hf.var, hf.row⟩

theorem grownCap_facts (W : World) (need old : Nat) (e : TypeId) : need ≤ grownCap W need old e := grownCap_ge W need old e

/-- append where there is no room. -/
theorem run_append_any {P : Program} {W : World} {t ty e : TypeId} {i : TypeInfo} {z : Value} (ht : P.underlying t = some (.slice e)) (hi : P.info? e = some i) (hz : i.zero = some z) {A : Option Addr} {n c : Nat} (hA : A = none → n = 0 ∧ c = 0)
    {olds : List Value} (hlo : olds.length = n * i.size) (holds : ∀ ad, A = some ad → ∀ j v, olds[j]? = some v → W.cell? (ad.add j) = some v)
    {ad : Addr} {m cy : Nat} {news : List Value} (hl : news.length = m * i.size) (hnews : ∀ j v, news[j]? = some v → W.cell? (ad.add j) = some v) (hm : 0 < m) (hg : c < n + m) (hb0 : 0 < i.bytes) (hb : (n + m) * i.bytes ≤ 140737488355328) :
    ∃ cap, n + m ≤ cap ∧ (Builtin.append_ #[t, t] ty #[.slice A n c, .slice (some ad) m cy]).run P W = .ok (.slice (some ⟨W.heap.size, 0, none⟩) (n + m) cap) (W.drew.alloc (.cells (olds.toArray ++ news.toArray ++ Builtin.zeroCells z.cells (cap - (n + m))) e)) := by
  have hsm : n + m ≤ 140737488355328 := Nat.le_trans (Nat.le_mul_of_pos_right _ hb0) hb
  cases A with
  | none =>
    obtain ⟨rfl, rfl⟩ := hA rfl
    have ho : olds = [] := List.eq_nil_of_length_eq_zero (by simpa using hlo)
    subst ho
    have := run_append_nil (P := P) W t ty e i z ht hi hz ad m cy news hl hnews hm (by omega) (by simp at hb; omega)
    refine ⟨grownCap W m 0 e, by rw [Nat.zero_add]; exact grownCap_ge W m 0 e, ?_⟩
    simpa using this
  | some a =>
    have := run_append_grow (P := P) W t ty e i z ht hi hz a n c olds hlo (holds a rfl) ad m cy news hl hnews hg (by omega) (growslice_fits hg hb)
    exact ⟨grownCap W (n + m) c e, grownCap_ge W (n + m) c e, this⟩

theorem mem_contains {k : Nat} {l : List Nat} (h : (!(l.contains k)) = true) : k ∉ l := by
  intro hk
  simp [hk] at h

theorem slD_form {α : Type} {W : World} {J : Nat → Prop} {R : α → List Value → Prop} {z : Nat} {xs : List α} {v : Value} (h : SlD W J R z xs v) : ∃ A c, v = .slice A xs.length c ∧ xs.length ≤ c := by
  obtain ⟨A, c, rfl, hn, _⟩ := h
  exact ⟨A, c, rfl, hn⟩

/-- append to a piece of a row of one's own. -/
theorem append_row {P : Program} {B : Nat} {s : S4} (h : MemOk B s) {t ty e : TypeId} {u : U} {bytes : Nat} (ht : P.underlying t = some (.slice e)) (he : ElemFact P e u bytes) (hb0 : 0 < bytes) {key : Nat} (hu : ¬ s.U key) (hk : key < s.H.nx)
    {k : Nat} {r : Row} (hr : s.H.row k = some r) (hw : r.w = true) (hru : r.u = u) {o n : Nat} (hon : o + n ≤ r.xs.length) {vx : Value} (hv : RowV s.W (s.ρ.row k) r.u.size o n vx)
    {y : V} {vy : Value} {ys : List u.T} (hy : RelV s y vy) (hd : deepen s.H (.sl u) y = some ys) (hby : (n + ys.length) * bytes ≤ maxBytes) :
    ValOk B s key ((Builtin.append_ #[t, t] ty #[vx, vy]).run P s.W) (.row key) ((s.H.delRow k).setRow key ⟨u, (hru ▸ ((r.xs.drop o).take n)) ++ ys, true⟩) := by
  subst hru
  obtain ⟨i, z, hi, hsz, hbt, hz, hzc⟩ := he.info
  obtain ⟨Ay, cy, rfl, hcy⟩ := slD_form (sl_of_deepen h hy hd)
  have hzp := (h.row k r hr).2.1
  have m1 := memOk_delRow h k
  have x1 : Ext B s (s.delRow k) := ext_delRow
  have hzl : ((r.xs.drop o).take n).length = n := by simp; omega
  have hzs : z.cells.size = r.u.size := by rw [← Array.length_toList, hzc, zcells_len]
  obtain ⟨A, c, rfl, hn, hc⟩ := hv
  -- the elements that are there
  have olds : ∃ ol : List Value, ol.length = n * r.u.size ∧ (∀ ad, A = some ad → ∀ j v, ol[j]? = some v → s.W.cell? (ad.add j) = some v) ∧ (∀ (q : Nat) (x : r.u.T), ((r.xs.drop o).take n)[q]? = some x → RelD s.W s.I r.u x ((ol.drop (q * r.u.size)).take r.u.size)) := by
    rcases Nat.eq_zero_or_pos n with h0 | h0
    · subst h0
      exact ⟨[], by simp, fun _ _ j v hj => by simp at hj, fun q x hq => by simp at hq⟩
    · have hrel : RelV s (.rsub k o n) (.slice A n c) := by
        refine .inr ⟨[_], ?_, rfl⟩
        simp only [RelC]
        refine ⟨(h.row k r hr).1, _, rfl, rfl, fun r' hr' => ?_⟩
        rw [hr] at hr'
        injection hr' with hr'
        subst hr'
        exact ⟨hon, A, c, rfl, hn, hc⟩
      have hdd : deepen s.H (.sl r.u) (.rsub k o n) = some ((r.xs.drop o).take n) := by
        simp only [deepen, hr]
        simp [castT]
      obtain ⟨ad, ol, hA, hl, hcell, hel⟩ := sl_elems h hrel hdd rfl h0
      exact ⟨ol, hl, fun ad' hA' => by rw [hA] at hA'; injection hA' with hA'; subst hA'; exact hcell, hel⟩
  obtain ⟨ol, hol, holc, hole⟩ := olds
  rcases Nat.eq_zero_or_pos ys.length with hm | hm
  · -- nothing to append
    have hys : ys = [] := List.eq_nil_of_length_eq_zero hm
    subst hys
    have hrun := run_append_none (P := P) (W := s.W) (ty := ty) ht hi A Ay n c cy hn
    rcases hc with hc | ⟨b, base, hp, rfl, hbs⟩
    · subst hc
      have hn0 : n = 0 := by omega
      subst hn0
      obtain ⟨t', a1, a2, a3, a4, a5, a6⟩ := empty_ok m1 (key := key) hu hk hzp A
      refine ⟨t', ?_, a2, x1.trans a3, fun q hq => (a4 q hq).imp id (fun e => by omega), _, ?_, a6⟩
      · rw [a1]; simp [S4.delRow]
      · rw [a5]; exact hrun
    · have hf := free_delRow h hr hw hp
      obtain ⟨_, _, h3⟩ := h.row k r hr
      rcases h3 with h3 | ⟨b', base', cur, t', e', hh, _, _, hs, hx⟩
      · rw [h3.2] at hp; cases hp
      have hp0 := hp
      rw [hp] at e'
      injection e' with e'
      injection e' with e1 e2
      subst e1 e2
      have hon2 : (o + n) * r.u.size ≤ r.xs.length * r.u.size := Nat.mul_le_mul_right _ hon
      rw [Nat.add_mul] at hon2
      have hra : RowAt (s.delRow k) ⟨r.u, (r.xs.drop o).take n ++ [], true⟩ b (base + o * r.u.size) := by
        refine ⟨cur, t', hh, by simp; rw [Nat.min_eq_left (by omega)]; omega, fun q x hq => ?_⟩
        have hq : ((r.xs.drop o).take n)[q]? = some x := by simpa using hq
        have hqn : q < n := by
          have := (List.getElem?_eq_some_iff.1 hq).1
          omega
        rw [List.getElem?_take, if_pos hqn, List.getElem?_drop] at hq
        obtain ⟨c', hc', hcc⟩ := hx _ x hq
        refine ⟨c', hc', fun j v hj => ?_⟩
        have := hcc j v hj
        rw [Nat.add_mul] at this
        show cur[base + o * r.u.size + q * r.u.size + j]? = some v
        rw [show base + o * r.u.size + q * r.u.size + j = base + (o * r.u.size + q * r.u.size) + j by omega]
        exact this
      have m2 := memOk_addRow m1 (key := key) (pl := some (b, base + o * r.u.size)) (r := ⟨r.u, (r.xs.drop o).take n ++ [], true⟩) hu hk hzp rfl (.inr ⟨_, _, rfl, hf, hra⟩)
      refine ⟨_, rfl, m2, x1.trans (ext_addRow hu), fun q hq => hq.imp id (fun e => by omega), _, hrun, .inr ⟨[_], ?_, rfl⟩⟩
      simp only [RelC]
      refine ⟨.inr rfl, _, rfl, rfl, fun r' hr' => ?_⟩
      rcases addRow_row hr' with ⟨_, rfl⟩ | ⟨hne, _⟩
      · have hl : ((r.xs.drop o).take n ++ ([] : List r.u.T)).length = n := by rw [List.append_nil, hzl]
        refine ⟨some ⟨b, base + o * r.u.size, none⟩, c, by show _ = Value.slice _ _ c; rw [hl], by show _ ≤ c; rw [hl]; exact hn, .inr ⟨b, base + o * r.u.size, by simp [S4.addRow], by simp, ?_⟩⟩
        show base + o * r.u.size + (0 + c) * r.u.size ≤ bsize s.W b
        rw [Nat.add_mul] at hbs
        rw [Nat.zero_add]
        omega
      · exact absurd rfl hne
  · obtain ⟨ady, news, rfl, hln, hnc, hne⟩ := sl_elems h hy hd rfl hm
    rcases Nat.lt_or_ge c (n + ys.length) with hg | hg
    · -- no room
      have hA : A = none → n = 0 ∧ c = 0 := by
        intro hA
        rcases hc with hc | ⟨b, base, _, hA', _⟩
        · exact ⟨by omega, hc⟩
        · rw [hA] at hA'; cases hA'
      obtain ⟨cap, hcap, hrun⟩ := run_append_any (P := P) (W := s.W) (ty := ty) (cy := cy) ht hi hz hA (by rw [hsz]; exact hol) holc (by rw [hsz]; exact hln) hnc hm hg (by rw [hbt]; exact hb0) (by rw [hbt]; exact hby)
      obtain ⟨t', a1, a2, a3, a4, a5, a6⟩ := grown_ok m1 (key := key) hu hk hzp (xs := (r.xs.drop o).take n) (ys := ys) (olds := ol) (news := news) (by rw [hzl]; exact hol) hln hole hne e z.cells cap (by rw [hzl]; exact hcap) hzs
      rw [hzl] at a5 a6
      exact ⟨t', a1, a2, x1.trans a3, fun q hq => (a4 q hq).imp id (fun e => by omega), _, by rw [a5]; exact hrun, a6⟩
    · -- room
      rcases hc with hc | ⟨b, base, hp, rfl, hbs⟩
      · omega
      have hf := free_delRow h hr hw hp
      obtain ⟨_, _, h3⟩ := h.row k r hr
      rcases h3 with h3 | ⟨b', base', cur, t', e', hh, _, _, hs, hx⟩
      · rw [h3.2] at hp; cases hp
      rw [hp] at e'
      injection e' with e'
      injection e' with e1 e2
      subst e1 e2
      rw [bsize_at hh] at hbs
      have hg2 : (n + ys.length) * r.u.size ≤ c * r.u.size := Nat.mul_le_mul_right _ hg
      rw [Nat.add_mul] at hg2 hbs
      have hone : ∀ v ∈ news, v.oneCell' = true := news_one (xs := ys) hln hne
      obtain ⟨W', hrun, hws⟩ := run_append_here (P := P) (W := s.W) (ty := ty) (cy := cy) (o := base + o * r.u.size) (n := n) (c := c) ht hi hh ady ys.length news (by rw [hsz]; exact hln) hnc hone hg (by rw [hsz]; omega)
      rw [hsz] at hws
      have m2 := memOk_freeSet m1 hf hws
      have x2 := ext_freeSet m1 hf hws
      obtain ⟨cs0, t0, g1, g2, g3⟩ := hws.here
      have hon2 : (o + n) * r.u.size ≤ r.xs.length * r.u.size := Nat.mul_le_mul_right _ hon
      rw [Nat.add_mul] at hon2
      rw [hh] at g1
      injection g1 with g1
      injection g1 with g1 g1' _
      subst g1 g1'
      have hfit : base + o * r.u.size + n * r.u.size + news.length ≤ cur.toList.length := by simp; omega
      have hra : RowAt ((s.delRow k).setW W') ⟨r.u, (r.xs.drop o).take n ++ ys, true⟩ b (base + o * r.u.size) := by
        refine rowAt_two g2 (by rw [hzl, g3, Nat.add_mul]; omega) (fun q x hq => ?_) (fun q x hq => ?_)
        · have hqn : q < n := by
            have := (List.getElem?_eq_some_iff.1 hq).1
            omega
          have hq1 : (q + 1) * r.u.size ≤ n * r.u.size := Nat.mul_le_mul_right _ hqn
          rw [Nat.succ_mul] at hq1
          rw [List.getElem?_take, if_pos hqn, List.getElem?_drop] at hq
          obtain ⟨c', hc', hcc⟩ := hx _ x hq
          refine ⟨c', hc'.mono x2.i x2.w, fun j v hj => ?_⟩
          have hjl : j < r.u.size := by
            have := (List.getElem?_eq_some_iff.1 hj).1
            rw [hc'.len] at this
            exact this
          have := hcc j v hj
          rw [Nat.add_mul] at this
          rw [List.getElem?_toArray, splice_get hfit, if_neg (by omega)]
          rw [show base + o * r.u.size + q * r.u.size + j = base + (o * r.u.size + q * r.u.size) + j by omega]
          simpa using this
        · have hr' := hne q x hq
          have hql := (List.getElem?_eq_some_iff.1 hq).1
          refine ⟨_, hr'.mono x2.i x2.w, fun j v hj => ?_⟩
          have := relD_chunk_cells hr' hj
          have hjl := (List.getElem?_eq_some_iff.1 this).1
          rw [List.getElem?_toArray, hzl, splice_get hfit, Nat.add_mul, if_pos (by omega)]
          rw [show base + o * r.u.size + (n * r.u.size + q * r.u.size) + j - (base + o * r.u.size + n * r.u.size) = q * r.u.size + j by omega]
          exact this
      have m3 := memOk_addRow m2 (key := key) (pl := some (b, base + o * r.u.size)) (r := ⟨r.u, (r.xs.drop o).take n ++ ys, true⟩) hu hk hzp rfl (.inr ⟨_, _, rfl, free_setW hf W', hra⟩)
      refine ⟨_, rfl, m3, (x1.trans x2).trans (ext_addRow hu), fun q hq => hq.imp id (fun e => by omega), _, hrun, .inr ⟨[_], ?_, rfl⟩⟩
      simp only [RelC]
      refine ⟨.inr rfl, _, rfl, rfl, fun r' hr' => ?_⟩
      rcases addRow_row hr' with ⟨_, rfl⟩ | ⟨hne, _⟩
      · have hl : ((r.xs.drop o).take n ++ ys).length = n + ys.length := by rw [List.length_append, hzl]
        refine ⟨some ⟨b, base + o * r.u.size, none⟩, c, by show _ = Value.slice _ _ c; rw [hl], by show _ ≤ c; rw [hl]; exact hg, .inr ⟨b, base + o * r.u.size, by simp [S4.addRow], by simp, ?_⟩⟩
        show base + o * r.u.size + (0 + c) * r.u.size ≤ bsize W' b
        rw [hws.bsize, bsize_at hh, Nat.zero_add]
        omega
      · exact absurd rfl hne

theorem appendV_ok {P : Program} {B : Nat} {s : S4} (h : MemOk B s) {t ty e : TypeId} {u : U} {bytes : Nat} (ht : P.underlying t = some (.slice e)) (he : ElemFact P e u bytes) (hb0 : 0 < bytes) (hzp : 0 < u.size) {key : Nat} (hu : ¬ s.U key) (hk : key < s.H.nx)
    {x y v' : V} {vx vy : Value} {H' : HF} (hx : RelV s x vx) (hy : RelV s y vy) (hto : (appendV s.H key u bytes x y).to v' H') : ValOk B s key ((Builtin.append_ #[t, t] ty #[vx, vy]).run P s.W) v' H' := by
  unfold appendV at hto
  split at hto
  · cases hto
  · rename_i ys hd
    obtain ⟨i, z, hi, hsz, hbt, hz, hzc⟩ := he.info
    have hzs : z.cells.size = u.size := by rw [← Array.length_toList, hzc, zcells_len]
    split at hto
    · -- nil
      rcases hto with ⟨hby, rfl, rfl⟩ | ⟨_, hto⟩
      · have hby := of_decide_eq_true hby
        obtain ⟨cs, h1, h2⟩ := hx.get (by intro h; cases h) (by intro w h; cases h)
        simp only [RelC] at h1
        subst h1
        have := isVal_one h2 rfl
        subst this
        obtain ⟨Ay, cy, rfl, hcy⟩ := slD_form (sl_of_deepen h hy hd)
        rcases Nat.eq_zero_or_pos ys.length with hm | hm
        · have hys : ys = [] := List.eq_nil_of_length_eq_zero hm
          subst hys
          obtain ⟨t', a1, a2, a3, a4, a5, a6⟩ := empty_ok h (key := key) hu hk hzp none
          exact ⟨t', a1, a2, a3, fun q hq => (a4 q hq).imp id (fun e => by omega), _, by rw [a5]; exact run_append_none ht hi none Ay 0 0 cy (Nat.le_refl _), a6⟩
        · obtain ⟨ady, news, rfl, hln, hnc, hne⟩ := sl_elems h hy hd rfl hm
          obtain ⟨cap, hcap, hrun⟩ := run_append_any (P := P) (W := s.W) (ty := ty) (cy := cy) (A := none) (n := 0) (c := 0) (olds := []) ht hi hz (fun _ => ⟨rfl, rfl⟩) (by simp) (fun _ h => by cases h) (by rw [hsz]; exact hln) hnc hm (by omega) (by rw [hbt]; exact hb0) (by rw [hbt, Nat.zero_add]; exact hby)
          obtain ⟨t', a1, a2, a3, a4, a5, a6⟩ := grown_ok h (key := key) hu hk hzp (xs := ([] : List u.T)) (ys := ys) (olds := []) (news := news) (by simp) hln (fun q x hq => by simp at hq) hne e z.cells cap (by simpa using hcap) hzs
          refine ⟨t', by simpa using a1, a2, a3, fun q hq => (a4 q hq).imp id (fun e => by omega), _, by rw [a5]; exact hrun, a6⟩
      · cases hto
    · -- full
      rename_i u' xs
      split at hto
      · rename_i zs hcast
        obtain ⟨e1, e2⟩ := castT_some hcast
        injection e1 with e1
        subst e1
        have e2 : xs = zs := by simpa using e2
        subst e2
        rcases hto with ⟨hcond, ⟨hby, rfl, rfl⟩ | ⟨_, hto⟩⟩ | ⟨_, hto⟩
        · have hby := of_decide_eq_true hby
          obtain ⟨hsl, A, rfl⟩ := relV_dfull hx
          obtain ⟨Ay, cy, rfl, hcy⟩ := slD_form (sl_of_deepen h hy hd)
          rcases Nat.eq_zero_or_pos ys.length with hm | hm
          · have hys : ys = [] := List.eq_nil_of_length_eq_zero hm
            subst hys
            have hxs : xs = [] := by simpa using hcond
            subst hxs
            obtain ⟨t', a1, a2, a3, a4, a5, a6⟩ := empty_ok h (key := key) hu hk hzp A
            exact ⟨t', a1, a2, a3, fun q hq => (a4 q hq).imp id (fun e => by omega), _, by rw [a5]; exact run_append_none ht hi A Ay 0 0 cy (Nat.le_refl _), a6⟩
          · obtain ⟨ady, news, rfl, hln, hnc, hne⟩ := sl_elems h hy hd rfl hm
            have olds : ∃ ol : List Value, ol.length = xs.length * u'.size ∧ (∀ ad, A = some ad → ∀ j v, ol[j]? = some v → s.W.cell? (ad.add j) = some v) ∧ (∀ (q : Nat) (x : u'.T), xs[q]? = some x → RelD s.W s.I u' x ((ol.drop (q * u'.size)).take u'.size)) := by
              rcases Nat.eq_zero_or_pos xs.length with h0 | h0
              · have hxs : xs = [] := List.eq_nil_of_length_eq_zero h0
                subst hxs
                exact ⟨[], by simp, fun _ _ j v hj => by simp at hj, fun q x hq => by simp at hq⟩
              · obtain ⟨ad, ol, hA, hl, hcell, hel⟩ := sl_cells hsl h0
                exact ⟨ol, hl, fun ad' hA' => by rw [hA] at hA'; injection hA' with hA'; subst hA'; exact hcell, hel⟩
            obtain ⟨ol, hol, holc, hole⟩ := olds
            have hA : A = none → xs.length = 0 ∧ xs.length = 0 := by
              intro hA
              subst hA
              rcases Nat.eq_zero_or_pos xs.length with h0 | h0
              · exact ⟨h0, h0⟩
              · obtain ⟨ad, _, hA, _⟩ := sl_cells hsl h0
                cases hA
            obtain ⟨cap, hcap, hrun⟩ := run_append_any (P := P) (W := s.W) (ty := ty) (cy := cy) ht hi hz hA (by rw [hsz]; exact hol) holc (by rw [hsz]; exact hln) hnc hm (by omega) (by rw [hbt]; exact hb0) (by rw [hbt]; exact hby)
            obtain ⟨t', a1, a2, a3, a4, a5, a6⟩ := grown_ok h (key := key) hu hk hzp (xs := xs) (ys := ys) (olds := ol) (news := news) hol hln hole hne e z.cells cap hcap hzs
            exact ⟨t', a1, a2, a3, fun q hq => (a4 q hq).imp id (fun e => by omega), _, by rw [a5]; exact hrun, a6⟩
        · cases hto
        · cases hto
      · cases hto
    · -- a row
      rename_i k
      split at hto
      · rename_i r hr
        split at hto
        · rename_i hw
          simp only [Bool.and_eq_true] at hw
          split at hto
          · rename_i zs hcast
            obtain ⟨e1, e2⟩ := castT_some hcast
            injection e1 with e1
            rcases hto with ⟨hby, rfl, rfl⟩ | ⟨_, hto⟩
            · have hby := of_decide_eq_true hby
              obtain ⟨_, _, hv⟩ := relV_row hx
              have hzl : zs.length = r.xs.length := by
                subst e1
                have e2 : r.xs = zs := by simpa using e2
                rw [e2]
              have := append_row (P := P) (ty := ty) h ht he hb0 hu hk hr hw.1 e1 (o := 0) (n := r.xs.length) (by omega) (hv r hr) hy hd (by rw [← hzl]; exact hby)
              have hzz : (e1 ▸ ((r.xs.drop 0).take r.xs.length) : List u.T) = zs := by
                subst e1
                simpa using e2
              rw [hzz] at this
              exact this
            · cases hto
          · cases hto
        · cases hto
      · cases hto
    · rename_i k o n
      split at hto
      · rename_i r hr
        split at hto
        · rename_i hw
          simp only [Bool.and_eq_true] at hw
          split at hto
          · rename_i zs hcast
            obtain ⟨e1, e2⟩ := castT_some hcast
            injection e1 with e1
            rcases hto with ⟨hby, rfl, rfl⟩ | ⟨_, hto⟩
            · have hby := of_decide_eq_true hby
              obtain ⟨_, _, hv⟩ := relV_rsub hx
              have hzl : zs.length = n := by
                subst e1
                have e2 : (r.xs.drop o).take n = zs := by simpa using e2
                rw [← e2]
                have := (hv r hr).1
                simp; omega
              have := append_row (P := P) (ty := ty) h ht he hb0 hu hk hr hw.1 e1 (o := o) (n := n) (hv r hr).1 (hv r hr).2 hy hd (by rw [← hzl]; exact hby)
              have hzz : (e1 ▸ ((r.xs.drop o).take n) : List u.T) = zs := by
                subst e1
                simpa using e2
              rw [hzz] at this
              exact this
            · cases hto
          · cases hto
        · cases hto
      · cases hto
    · cases hto
end Go.Proofs.YtdfhopakojmjkaaDoor.Den
