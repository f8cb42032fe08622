/- Parts of rows of one's own, turned at once: clear, copy. -/
import Derived.Test.YtdfhopakojmjkaaDoorDenN
namespace Go.Proofs.YtdfhopakojmjkaaDoor.Den
open Go Go.RowKit
set_option linter.unusedVariables false
set_option linter.unusedSectionVars false

theorem seg_len {α : Type} {xs ys : List α} {o : Nat} (h : o + ys.length ≤ xs.length) : (segSet xs o ys).length = xs.length := by
  simp [segSet]; omega
theorem seg_get {α : Type} {xs ys : List α} {o : Nat} (h : o + ys.length ≤ xs.length) (j : Nat) : (segSet xs o ys)[j]? = if o ≤ j ∧ j < o + ys.length then ys[j - o]? else xs[j]? := by
  unfold segSet
  by_cases h1 : j < o
  · rw [if_neg (by omega), List.append_assoc, List.getElem?_append_left (by simp; omega), List.getElem?_take, if_pos h1]
  · by_cases h2 : j < o + ys.length
    · rw [if_pos (by omega), List.append_assoc, List.getElem?_append_right (by simp; omega), List.getElem?_append_left (by simp; omega)]
      congr 1
      simp; omega
    · rw [if_neg (by omega), List.getElem?_append_right (by simp; omega), List.getElem?_drop]
      congr 1
      simp; omega
theorem seg_nil {α : Type} {xs : List α} {o : Nat} : segSet xs o [] = xs := by simp [segSet]
theorem setRow_same {H : HF} {k : Nat} {r : Row} (h : H.row k = some r) (hw : r.w = true) : H.setRow k ⟨r.u, r.xs, true⟩ = H := by
  obtain ⟨u, xs, w⟩ := r
  simp only at hw
  subst hw
  unfold HF.setRow
  cases H with
  | mk v rw n =>
    simp only at h ⊢
    congr 1
    funext i
    by_cases e : i = k
    · subst e
      simp [h]
    · simp [nbeq e]

theorem segPut {P : Program} {B : Nat} {s : S4} (h : MemOk B s) {k : Nat} {r : Row} (hr : s.H.row k = some r) (hw : r.w = true) {o n : Nat} {A : Option Addr} {c : Nat} (hx : RowV s.W (s.ρ.row k) r.u.size o n (.slice A n c)) (hon : o + n ≤ r.xs.length)
    {ys : List r.u.T} (hy : ys.length ≤ n) (hpos : 0 < ys.length) {vs : List Value} (hvl : vs.length = ys.length * r.u.size) (hv : ∀ (i : Nat) (y : r.u.T), ys[i]? = some y → RelD s.W s.I r.u y ((vs.drop (i * r.u.size)).take r.u.size)) (h1 : ∀ v ∈ vs, v.oneCell' = true) :
    ∃ a t, A = some a ∧ (storeCells a vs).run P s.W = .ok () t.W ∧ t.H = s.H.setRow k ⟨r.u, segSet r.xs o ys, true⟩ ∧ MemOk B t ∧ Ext B s t ∧ t.U = s.U := by
  obtain ⟨A', cap, e, hnc, hcap⟩ := hx
  injection e with e1 e2 e3
  subst e1 e3
  obtain ⟨_, hz, h3⟩ := h.row k r hr
  rcases hcap with hc | ⟨b, base, hp, hA, hs⟩
  · omega
  rcases h3 with h3 | ⟨b', base', cur, t, e, hh, _, _, hsz, hel⟩
  · rw [h3.2] at hp; cases hp
  have he := e
  rw [hp] at he
  injection he with he
  injection he with e1 e2
  subst e1 e2
  have hm1 : (o + ys.length) * r.u.size ≤ r.xs.length * r.u.size := Nat.mul_le_mul_right _ (by omega)
  rw [Nat.add_mul] at hm1
  obtain ⟨W', hrun, hws⟩ := run_storeCells_at P (b := b) (o := base + o * r.u.size) vs 0 s.W cur hh (by omega) h1
  have hws : WSet s.W W' b (splice cur.toList (base + o * r.u.size) vs).toArray := by simpa using hws
  have hl := seg_len (xs := r.xs) (ys := ys) (o := o) (by omega)
  refine ⟨_, s.putRow W' k ⟨r.u, segSet r.xs o ys, true⟩, hA, hrun, rfl, ?_, ext_putRow h hr hw hp hl hws, rfl⟩
  refine memOk_putRow h hr hw hp hl hws (fun j x hj => ?_)
  rw [seg_get (by omega)] at hj
  by_cases hjs : o ≤ j ∧ j < o + ys.length
  · rw [if_pos hjs] at hj
    have hr' := hv _ x hj
    refine ⟨_, hr', fun q w hq => ?_⟩
    have hq' : q < r.u.size := by
      have := (List.getElem?_eq_some_iff.1 hq).1
      rw [hr'.len] at this
      exact this
    rw [List.getElem?_take, if_pos hq', List.getElem?_drop] at hq
    have e1 : j * r.u.size = o * r.u.size + (j - o) * r.u.size := by
      rw [← Nat.add_mul, Nat.add_sub_cancel' hjs.1]
    have e2 : (j - o + 1) * r.u.size ≤ ys.length * r.u.size := Nat.mul_le_mul_right _ (by omega)
    rw [Nat.succ_mul] at e2
    rw [List.getElem?_toArray, splice_get (by simp; omega), if_pos (by omega)]
    rw [show base + j * r.u.size + q - (base + o * r.u.size) = (j - o) * r.u.size + q by omega]
    exact hq
  · rw [if_neg hjs] at hj
    obtain ⟨c2, hc2, hcc2⟩ := hel j x hj
    refine ⟨c2, hc2, fun q w hq => ?_⟩
    have hq' : q < r.u.size := by
      have := (List.getElem?_eq_some_iff.1 hq).1
      rw [hc2.len] at this
      exact this
    have := hcc2 q w hq
    rw [List.getElem?_toArray, splice_get (by simp; omega), if_neg]
    · simpa using this
    · rintro ⟨q1, q2⟩
      rcases Nat.lt_or_ge j o with hlt | hge
      · have : (j + 1) * r.u.size ≤ o * r.u.size := Nat.mul_le_mul_right _ hlt
        rw [Nat.succ_mul] at this
        omega
      · have : (o + ys.length) * r.u.size ≤ j * r.u.size := Nat.mul_le_mul_right _ (by omega)
        rw [Nat.add_mul] at this
        omega

theorem zero_chunk {u : U} {n i : Nat} (hi : i < n) (W : World) (I : Nat → Prop) : RelD W I u u.zero (((List.replicate n (zcells u)).flatten.drop (i * u.size)).take u.size) := by
  have := chunk_replicate (zcells u) n i hi
  rw [zcells_len] at this
  rw [this]
  exact RelD.zero W I u
theorem zeroCells_eq {z : Array Value} {u : U} (hz : z.toList = zcells u) (hp : 0 < u.size) (n : Nat) : (Builtin.zeroCells z n).toList = (List.replicate n (zcells u)).flatten := by
  have hs : z.size = u.size := by rw [← Array.length_toList, hz, zcells_len]
  apply List.ext_getElem?
  intro q
  unfold Builtin.zeroCells
  by_cases hq : q < n * u.size
  · have h1 : q / u.size < n := by rw [Nat.div_lt_iff_lt_mul hp]; exact hq
    have h2 := chunk_replicate (zcells u) n (q / u.size) h1
    rw [zcells_len] at h2
    have h3 := congrArg (fun l => l[q % u.size]?) h2
    simp only [List.getElem?_take, if_pos (Nat.mod_lt q hp), List.getElem?_drop] at h3
    rw [show q / u.size * u.size + q % u.size = q by rw [Nat.mul_comm]; exact Nat.div_add_mod q u.size] at h3
    rw [h3, ← hz]
    have hm : q % u.size < z.size := by rw [hs]; exact Nat.mod_lt q hp
    simp [hs, hq]
    rw [getElem!_pos z (q % u.size) (by omega), Array.getElem?_eq_getElem (by omega)]
  · rw [List.getElem?_eq_none (by simp [hs]; omega), List.getElem?_eq_none]
    have : ((List.replicate n (zcells u)).flatten).length = n * u.size := by simp [List.length_flatten, zcells_len]
    omega

theorem run_clear_slice {P : Program} {W : World} {t ty e : TypeId} {i : TypeInfo} {z : Value} (ht : P.underlying t = some (.slice e)) (hi : P.info? e = some i) (hz : i.zero = some z) (a : Addr) (n c : Nat) (hn : 0 < n) :
    (Builtin.clear_ #[t] ty #[.slice (some a) n c]).run P W = ((do storeCells a (Builtin.zeroCells z.cells n).toList; pure (.tuple #[])) : Sem Value).run P W := by
  obtain ⟨m, rfl⟩ : ∃ m, n = m + 1 := ⟨n - 1, by omega⟩
  simp [Builtin.clear_, run_underlying ht, run_zero hi hz]
theorem run_clear_none {P : Program} {W : World} {t ty e : TypeId} (ht : P.underlying t = some (.slice e)) (A : Option Addr) (n c : Nat) (hn : n = 0 ∨ A = none) :
    (Builtin.clear_ #[t] ty #[.slice A n c]).run P W = .ok (.tuple #[]) W := by
  rcases hn with rfl | rfl
  · cases A <;> simp [Builtin.clear_, run_underlying ht]
  · simp [Builtin.clear_, run_underlying ht]

/-- A part of a row, as a value of the machine's. -/
theorem seg_of {s : S4} {v : V} {x : Value} (hx : RelV s v x) {k : Nat} {r : Row} (hr : s.H.row k = some r) :
    (v = .row k → ∃ A c, x = .slice A r.xs.length c ∧ RowV s.W (s.ρ.row k) r.u.size 0 r.xs.length (.slice A r.xs.length c)) ∧
    (∀ o n, v = .rsub k o n → ∃ A c, x = .slice A n c ∧ o + n ≤ r.xs.length ∧ RowV s.W (s.ρ.row k) r.u.size o n (.slice A n c)) := by
  constructor
  · rintro rfl
    have h := (relV_row hx).2.2 r hr
    have h' := h
    obtain ⟨A, c, rfl, _⟩ := h
    exact ⟨A, c, rfl, h'⟩
  · rintro o n rfl
    obtain ⟨h0, h⟩ := (relV_rsub hx).2.2 r hr
    have h' := h
    obtain ⟨A, c, rfl, _⟩ := h
    exact ⟨A, c, rfl, h0, h'⟩

theorem clear_seg {P : Program} {B : Nat} {s : S4} (h : MemOk B s) {t ty e : TypeId} {u : U} {bytes : Nat} (ht : P.underlying t = some (.slice e)) (he : ElemFact P e u bytes) {key : Nat} {k : Nat} {r : Row} (hr : s.H.row k = some r) (hw : r.w = true) (hu : r.u = u) {o n : Nat} {A : Option Addr} {c : Nat}
    (hx : RowV s.W (s.ρ.row k) r.u.size o n (.slice A n c)) (hon : o + n ≤ r.xs.length) :
    ValOk B s key ((Builtin.clear_ #[t] ty #[.slice A n c]).run P s.W) (.tup .nil) (s.H.setRow k ⟨r.u, segSet r.xs o (List.replicate n r.u.zero), true⟩) := by
  subst hu
  obtain ⟨i, z, hi, hsz, hbt, hz, hzc⟩ := he.info
  obtain ⟨_, hzp, _⟩ := h.row k r hr
  rcases Nat.eq_zero_or_pos n with rfl | hn
  · refine ⟨s, by rw [List.replicate_zero, seg_nil, setRow_same hr hw], h, Ext.refl B s, fun k hk => .inl hk, _, run_clear_none ht _ _ _ (.inl rfl), ?_⟩
    exact ⟨[], rfl, rfl⟩
  · obtain ⟨a, t', rfl, hrun, hH, hm, hx', hU⟩ := segPut (P := P) h hr hw hx hon (ys := List.replicate n r.u.zero) (by simp) (by simpa using hn) (vs := (List.replicate n (zcells r.u)).flatten) (by simp [List.length_flatten, zcells_len])
      (fun j y hj => by
        have hjn : j < n := by
          have := (List.getElem?_eq_some_iff.1 hj).1
          simpa using this
        rw [List.getElem?_replicate, if_pos hjn] at hj
        injection hj with hj
        subst hj
        exact zero_chunk hjn s.W s.I)
      (fun v hv => by
        obtain ⟨l, hl, hv⟩ := List.mem_flatten.1 hv
        rw [List.mem_replicate] at hl
        rw [hl.2] at hv
        exact (RelD.zero s.W s.I r.u).one v hv)
    refine ⟨t', hH, hm, hx', fun q hq => .inl (by rw [hU] at hq; exact hq), .tuple #[], ?_, ⟨[], rfl, rfl⟩⟩
    rw [run_clear_slice ht hi hz a n c hn, zeroCells_eq hzc hzp]
    simp [hrun]

theorem clearV_ok {P : Program} {B : Nat} {s : S4} (h : MemOk B s) {t ty e : TypeId} {u : U} {bytes : Nat} (ht : P.underlying t = some (.slice e)) (he : ElemFact P e u bytes) {key : Nat} (hk : key < s.H.nx) {v v' : V} {x : Value} {H' : HF} (hx : RelV s v x) (hto : (clearV s.H u v).to v' H') :
    ValOk B s key ((Builtin.clear_ #[t] ty #[x]).run P s.W) v' H' := by
  unfold clearV at hto
  split at hto
  · obtain ⟨rfl, rfl⟩ := hto
    obtain ⟨cs, h1, h2⟩ := hx.get (by intro h; cases h) (by intro w h; cases h)
    simp only [RelC] at h1
    subst h1
    have h2 := isVal_one h2 rfl
    subst h2
    exact ValOk.same h (run_clear_none ht _ _ _ (.inr rfl)) ⟨[], rfl, rfl⟩
  · rename_i k
    split at hto
    · rename_i r hr
      split at hto
      · rename_i hq
        simp only [Bool.and_eq_true, decide_eq_true_eq] at hq
        obtain ⟨rfl, rfl⟩ := hto
        obtain ⟨A, c, rfl, hv⟩ := (seg_of hx hr).1 rfl
        exact clear_seg h ht he hr hq.1 hq.2 hv (by omega)
      · cases hto
    · cases hto
  · rename_i k o n
    split at hto
    · rename_i r hr
      split at hto
      · rename_i hq
        simp only [Bool.and_eq_true, decide_eq_true_eq] at hq
        obtain ⟨rfl, rfl⟩ := hto
        obtain ⟨A, c, rfl, hon, hv⟩ := (seg_of hx hr).2 o n rfl
        exact clear_seg h ht he hr hq.1 hq.2 hv hon
      · cases hto
    · cases hto
  · cases hto

theorem run_copy_some {P : Program} {W W' : World} {t t' ty e : TypeId} {i : TypeInfo} (ht : P.underlying t = some (.slice e)) (hi : P.info? e = some i) (a ad : Addr) (n c m cy : Nat) (news : List Value) (hl : news.length = (Nat.min m n) * i.size) (hnews : ∀ j v, news[j]? = some v → W.cell? (ad.add j) = some v)
    (hs : (storeCells a news).run P W = .ok () W') :
    (Builtin.copy_ #[t, t'] ty #[.slice (some a) n c, .slice (some ad) m cy]).run P W = .ok (goInt (Nat.min m n)) W' := by
  have hf : (Builtin.firstCells i.size (Nat.min m n) (.slice (some ad) m cy)).run P W = .ok news.toArray W := by
    simp only [Builtin.firstCells]
    rw [← hl]
    exact run_loadCells P W ad news hnews
  simp [Builtin.copy_, run_underlying ht, sizeOf, typeInfo, hi, Builtin.lenOf, hf, hs]
theorem run_copy_zero {P : Program} {W : World} {t t' ty e : TypeId} {i : TypeInfo} (ht : P.underlying t = some (.slice e)) (hi : P.info? e = some i) (A Ay : Option Addr) (n c m cy : Nat) (h0 : Nat.min m n = 0) :
    (Builtin.copy_ #[t, t'] ty #[.slice A n c, .slice Ay m cy]).run P W = .ok (goInt 0) W := by
  cases Ay <;> cases A <;> simp [Builtin.copy_, run_underlying ht, sizeOf, typeInfo, hi, Builtin.lenOf, Builtin.firstCells, h0, loadCells, loadCellsFrom, storeCells]

theorem copy_seg {P : Program} {B : Nat} {s : S4} (h : MemOk B s) {t t' ty e : TypeId} {bytes : Nat} {k : Nat} {r : Row} (ht : P.underlying t = some (.slice e)) (he : ElemFact P e r.u bytes) {key : Nat} (hr : s.H.row k = some r) (hw : r.w = true) {o n : Nat} {A : Option Addr} {c : Nat}
    (hx : RowV s.W (s.ρ.row k) r.u.size o n (.slice A n c)) (hon : o + n ≤ r.xs.length) {v : V} {y : Value} (hy : RelV s v y) {zs : List r.u.T} (hd : deepen s.H (.sl r.u) v = some zs) :
    ValOk B s key ((Builtin.copy_ #[t, t'] ty #[.slice A n c, y]).run P s.W) (.d (.int .i64) ((zs.take n).length : Int)) (s.H.setRow k ⟨r.u, segSet r.xs o (zs.take n), true⟩) := by
  obtain ⟨i, z, hi, hsz, hz, hzc⟩ := he.info
  obtain ⟨_, hzp, _⟩ := h.row k r hr
  obtain ⟨Ay, cy, rfl, _⟩ := slD_form (sl_of_deepen h hy hd)
  have hmin : (zs.take n).length = Nat.min zs.length n := by rw [List.length_take]; exact Nat.min_comm _ _
  rcases Nat.eq_zero_or_pos (Nat.min zs.length n) with h0 | hn
  · have hnil : zs.take n = [] := List.eq_nil_of_length_eq_zero (by rw [hmin]; exact h0)
    refine ⟨s, by rw [hnil, seg_nil, setRow_same hr hw], h, Ext.refl B s, fun k hk => .inl hk, _, run_copy_zero ht hi _ _ _ _ _ _ h0, ?_⟩
    rw [hnil]
    exact int_relV
  · have hzl : 0 < zs.length := Nat.lt_of_lt_of_le hn (Nat.min_le_left _ _)
    have hle := Nat.min_le_left zs.length n
    obtain ⟨ad, news, rfl, hnl, hcells, hel⟩ := sl_elems h hy hd rfl hzl
    have hml : (Nat.min zs.length n) * r.u.size ≤ zs.length * r.u.size := Nat.mul_le_mul_right _ hle
    have hone : ∀ w ∈ news, w.oneCell' = true := news_one hnl (fun i x hi => hel i x hi)
    obtain ⟨a, t1, rfl, hrun, hH, hm, hx', hU⟩ := segPut (P := P) h hr hw hx hon (ys := zs.take n) (by rw [hmin]; exact Nat.min_le_right _ _) (by rw [hmin]; exact hn) (vs := news.take ((Nat.min zs.length n) * r.u.size)) (by rw [List.length_take, hmin]; omega)
      (fun j y hj => by
        have hjn : j < Nat.min zs.length n := by
          have := (List.getElem?_eq_some_iff.1 hj).1
          rw [hmin] at this
          exact this
        have hj' : zs[j]? = some y := by
          rw [List.getElem?_take] at hj
          split at hj
          · exact hj
          · cases hj
        have := hel j y hj'
        have hj1 : (j + 1) * r.u.size ≤ (Nat.min zs.length n) * r.u.size := Nat.mul_le_mul_right _ hjn
        rw [Nat.succ_mul] at hj1
        rw [List.drop_take, List.take_take, Nat.min_eq_left (by omega)]
        exact this)
      (fun v hv => hone v (List.mem_of_mem_take hv))
    refine ⟨t1, hH, hm, hx', fun q hq => .inl (by rw [hU] at hq; exact hq), _, run_copy_some ht hi a ad n c zs.length cy _ (by rw [List.length_take, hsz]; omega) (fun j w hj => ?_) hrun, ?_⟩
    · rw [List.getElem?_take] at hj
      split at hj
      · exact hcells j w hj
      · cases hj
    · rw [hmin]
      exact int_relV

theorem copyV_ok {P : Program} {B : Nat} {s : S4} (h : MemOk B s) {t t' ty e : TypeId} {u : U} {bytes : Nat} (ht : P.underlying t = some (.slice e)) (he : ElemFact P e u bytes) {key : Nat} (hk : key < s.H.nx) {v w v' : V} {x y : Value} {H' : HF} (hx : RelV s v x) (hy : RelV s w y) (hto : (copyV s.H u v w).to v' H') :
    ValOk B s key ((Builtin.copy_ #[t, t'] ty #[x, y]).run P s.W) v' H' := by
  unfold copyV at hto
  split at hto
  · cases hto
  rename_i ys hd
  split at hto
  · obtain ⟨rfl, rfl⟩ := hto
    obtain ⟨cs, h1, h2⟩ := hx.get (by intro h; cases h) (by intro w h; cases h)
    simp only [RelC] at h1
    subst h1
    have h2 := isVal_one h2 rfl
    subst h2
    obtain ⟨Ay, cy, rfl, _⟩ := slD_form (sl_of_deepen h hy hd)
    obtain ⟨i, z, hi, hsz, hz, hzc⟩ := he.info
    exact ValOk.same h (run_copy_zero ht hi _ _ _ _ _ _ (Nat.min_eq_right (Nat.zero_le _))) int_relV
  · rename_i k
    split at hto
    · rename_i r hr
      split at hto
      · rename_i hw
        split at hto
        · rename_i zs hc
          obtain ⟨rfl, rfl⟩ := hto
          obtain ⟨e1, e2⟩ := castT_some hc
          injection e1 with e1
          subst e1
          have e2 : ys = zs := e2
          subst e2
          obtain ⟨A, c, rfl, hv⟩ := (seg_of hx hr).1 rfl
          exact copy_seg h ht he hr hw hv (by omega) hy hd
        · cases hto
      · cases hto
    · cases hto
  · rename_i k o n
    split at hto
    · rename_i r hr
      split at hto
      · rename_i hw
        split at hto
        · rename_i zs hc
          obtain ⟨rfl, rfl⟩ := hto
          obtain ⟨e1, e2⟩ := castT_some hc
          injection e1 with e1
          subst e1
          have e2 : ys = zs := e2
          subst e2
          obtain ⟨A, c, rfl, hon, hv⟩ := (seg_of hx hr).2 o n rfl
          exact copy_seg h ht he hr hw hv hon hy hd
        · cases hto
      · cases hto
    · cases hto
  · cases hto
end Go.Proofs.YtdfhopakojmjkaaDoor.Den
