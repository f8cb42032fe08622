
/- Pure laws: what is used; an object laid and freed. -/
import Derived.Test.YtebdioogklmeaaaDoorDenRi
namespace Go.Proofs.YtebdioogklmeaaaDoor.Den
open Go
set_option linter.unusedVariables false
set_option linter.unusedSimpArgs false
set_option maxRecDepth 100000

theorem usN_congr {g h : Heap} (e : g.2.1 = h.2.1) : ∀ n, usN g n = usN h n
  | 0 => rfl
  | n + 1 => by simp only [usN, usN_congr e n, e]
theorem usN_set (h : Heap) {p : Nat} (hp : p < h.2.1.length) (s : Span) (ws : List Int) : ∀ n, usN (ws, h.2.1.set p s, h.2.2) n = usN h n + (if p < n then us1 s - us1 (h.2.1.getD p sz) else 0)
  | 0 => by simp [usN]
  | n + 1 => by
    simp only [usN]
    rw [usN_set h hp s ws n]
    by_cases e : n = p
    · subst e
      rw [getD_set_self hp, if_neg (by omega), if_pos (by omega)]; omega
    · have : (h.2.1.set p s).getD n sz = h.2.1.getD n sz := by
        simp only [List.getD, List.getElem?_set, if_neg (show ¬ p = n from fun h => e h.symm)]
      rw [this]
      by_cases e2 : p < n
      · rw [if_pos e2, if_pos (by omega)]; omega
      · rw [if_neg e2, if_neg (by omega)]; omega
def usedN (h : Heap) : Int := usN h h.2.1.length
theorem usedN_congr {g h : Heap} (e : g.2.1 = h.2.1) : usedN g = usedN h := by
  unfold usedN; rw [usN_congr e, e]
theorem usedN_set {h : Heap} {p : Int} (i : inP h p) (s : Span) (ws : List Int) : usedN (ws, h.2.1.set p.toNat s, h.2.2) = usedN h + (us1 s - us1 (spanAt h p)) := by
  obtain ⟨n, rfl, hn, e⟩ := i.nat
  have := usN_set h hn s ws h.2.1.length
  rw [if_pos hn] at this
  rw [e]
  refine Eq.trans ?_ this
  show usN _ (h.2.1.set _ _).length = _
  rw [List.length_set]; rfl
theorem us1_new {c : Int} (c0 : 0 ≤ c) (c3 : c ≤ 3) : us1 (1, c, 2 ^ (cb c).toNat - 1, ()) = 0 := by
  obtain rfl | rfl | rfl | rfl : c = 0 ∨ c = 1 ∨ c = 2 ∨ c = 3 := by omega
  all_goals kernel_rfl
theorem us1_sz : us1 sz = 0 := by kernel_rfl
theorem right_free {s : Span} (hr : rightB s = true) (hs : s.1 = 0) : s = sz := by
  simp only [rightB, if_pos hs, decide_eq_true_eq] at hr
  exact Prod.ext hs (Prod.ext hr.1 (Prod.ext hr.2 rfl))
theorem us1_xr {s : Span} (h0 : 0 ≤ s.2.2.1) (hu : s.1 ≠ 0) {i : Nat} (hi : i < 32) :
    (bit s.2.2.1 i = true → us1 (s.1, s.2.1, xr s.2.2.1 i, ()) = us1 s + cw s.2.1) ∧ (bit s.2.2.1 i = false → us1 (s.1, s.2.1, xr s.2.2.1 i, ()) = us1 s - cw s.2.1) := by
  obtain ⟨m, hm⟩ := Int.eq_ofNat_of_zero_le h0
  have h1 := (pcn_xr m i 32).2 hi
  unfold us1
  rw [hm, if_neg hu, if_neg (by exact hu)]
  simp only [xr_nat, Int.toNat_natCast]
  have e1 : ∀ a b : Int, (a - b) * cw s.2.1 = a * cw s.2.1 - b * cw s.2.1 := fun a b => Int.sub_mul ..
  constructor
  · intro hb
    have h2 := h1.1 hb
    rw [← h2, e1, e1, Int.natCast_add, Int.add_mul]; omega
  · intro hb
    have h2 := h1.2 hb
    rw [h2, e1, e1, Int.natCast_add, Int.add_mul]; omega
theorem setSp_self {h : Heap} {p : Int} (i : inP h p) : h.2.1.set p.toNat (spanAt h p) = h.2.1 := by
  obtain ⟨n, rfl, hn, e⟩ := i.nat
  rw [e, get_d _ _ _ hn, Int.toNat_natCast, List.set_getElem_self]

/-- A page that is opened may be closed: all is as it was. -/
theorem open_back {h : Heap} (q : HP h) {p c : Int} (i : openP h p c) : closeP (opened h p c) p ∧ setSp (opened h p c) p sz = h ∧ usedN (opened h p c) = usedN h := by
  obtain ⟨ip, c0, c3, hs⟩ := i
  have es : spanAt h p = sz := right_free (q.f.right _ ip.mem) hs
  have eo : spanAt (opened h p c) p = (1, c, 2 ^ (cb c).toNat - 1, ()) := by
    obtain ⟨n, rfl, hn, e⟩ := ip.nat
    exact getD_set_self hn _ _
  refine ⟨⟨?_, ?_, ?_⟩, ?_, ?_⟩
  · refine ⟨ip.1, ?_⟩
    show p < ((h.2.1.set _ _).length : Int)
    rw [List.length_set]; exact ip.2
  · rw [eo]; show (1 : Int) ≠ 0; omega
  · rw [eo]
  · show (h.1, (h.2.1.set _ _).set _ _, h.2.2) = h
    rw [List.set_set, ← es, setSp_self ip]
  · have := usedN_set ip (1, c, 2 ^ (cb c).toNat - 1, ()) h.1
    rw [us1_new c0 c3, es, us1_sz] at this
    rw [show opened h p c = (h.1, h.2.1.set p.toNat (1, c, 2 ^ (cb c).toNat - 1, ()), h.2.2) from rfl, this]; omega

theorem layA_facts {h : Heap} (q : HP h) {p : Int} (ip : inP h p) (hs : (spanAt h p).1 ≠ 0) {i : Nat} (hi : (i : Int) < cb (spanAt h p).2.1) :
    layA h p i / 32 = p ∧ layA h p i % cw (spanAt h p).2.1 = 0 ∧ layA h p i % 32 / cw (spanAt h p).2.1 = i ∧ 0 ≤ layA h p i ∧ layA h p i < 32 * h.2.1.length ∧ layA h p i + cw (spanAt h p).2.1 ≤ 32 * p + 32 := by
  obtain ⟨⟨c0, c3⟩, m0, m1⟩ := lay_room q.f q.fr ip hs hi
  have i0 := ip.1
  have i1 := ip.2
  unfold layA
  rcases class4 c0 c3 with ⟨e, e'⟩ | ⟨e, e'⟩ | ⟨e, e'⟩ | ⟨e, e'⟩ <;> rw [e'] at hi <;> rw [e] at m0 m1 ⊢ <;> omega
theorem fnd_blk {h : Heap} (q : HP h) {p : Int} (ip : inP h p) (hs : (spanAt h p).1 ≠ 0) {i : Nat} (hi : (i : Int) < cb (spanAt h p).2.1) :
    fndB h (layA h p i) = true ∧ spanOf h (layA h p i) = spanAt h p ∧ blkI h (layA h p i) = i := by
  obtain ⟨e1, e2, e3, l0, l1, _⟩ := layA_facts q ip hs hi
  have es : spanOf h (layA h p i) = spanAt h p := by
    unfold spanOf spanAt; rw [e1]
  refine ⟨?_, es, ?_⟩
  · unfold fndB
    rw [es]
    exact decide_eq_true ⟨l0, l1, hs, e2⟩
  · unfold blkI; rw [es, e3]
theorem laid_span {h : Heap} {p : Int} (ip : inP h p) (i : Nat) (n : Int) : inP (laid h p i n) p ∧ spanAt (laid h p i n) p = ((spanAt h p).1, (spanAt h p).2.1, xr (spanAt h p).2.2.1 i, ()) := by
  refine ⟨⟨ip.1, ?_⟩, ?_⟩
  · show p < ((h.2.1.set _ _).length : Int)
    rw [List.length_set]; exact ip.2
  · obtain ⟨k, rfl, hk, e⟩ := ip.nat
    exact getD_set_self hk _ _
/-- An object that is laid may be freed. -/
theorem lay_back {h : Heap} (q : HP h) {p n : Int} (l : layP h p n) {i : Nat} (hb : bit (spanAt h p).2.2.1 i = true) (hi : (i : Int) < cb (spanAt h p).2.1) :
    fnd (laid h p i n) (layA h p i) = (p, (i : Int), true, ()) ∧ freeP (laid h p i n) (layA h p i) ∧ freed (laid h p i n) (layA h p i) = (zer h.1 (layA h p i).toNat (cw (spanAt h p).2.1).toNat, h.2.1, h.2.2) ∧ usedN (laid h p i n) = usedN h + cw (spanAt h p).2.1 := by
  have ql := laid_hp q l hi
  obtain ⟨ip, hs, hz, n0, n1⟩ := l
  obtain ⟨ip', es'⟩ := laid_span ip i n
  have hA : layA (laid h p i n) p i = layA h p i := by unfold layA; rw [es']
  have hi' : (i : Int) < cb (spanAt (laid h p i n) p).2.1 := by rw [es']; exact hi
  have hs' : (spanAt (laid h p i n) p).1 ≠ 0 := by rw [es']; show (spanAt h p).1 ≠ 0; omega
  obtain ⟨f1, f2, f3⟩ := fnd_blk ql ip' hs' hi'
  rw [hA] at f1 f2 f3
  obtain ⟨e1, _, _, l0, l1, l2⟩ := layA_facts q ip (by omega) hi
  have h0 := q.fr _ ip.mem
  have hc := cb_le (spanAt h p).2.1
  have hl := q.f.len
  have hw := cw_pos (lay_room q.f q.fr ip (by omega) hi).1.1 (lay_room q.f q.fr ip (by omega) hi).1.2
  have i1 := ip.2
  refine ⟨?_, ⟨f1, ?_⟩, ?_, ?_⟩
  · rw [fnd_in f1, e1, f3]
  · rw [f2, f3, es']
    refine ⟨.inl hs, by omega, hi, ?_⟩
    show bit (xr _ _) _ = false
    rw [Int.toNat_natCast, xr_bit h0, if_pos rfl, hb]; rfl
  · unfold freed
    rw [f2, f3, es', e1, Int.toNat_natCast]
    dsimp only
    rw [xr_xr h0]
    have a1 : (laid h p i n).2.1.set p.toNat (spanAt h p) = h.2.1 := by
      show (h.2.1.set _ _).set _ _ = _
      rw [List.set_set, setSp_self ip]
    rw [show ((spanAt h p).1, (spanAt h p).2.1, (spanAt h p).2.2.1, ()) = spanAt h p from rfl, a1]
    have a2 : zer (laid h p i n).1 (layA h p i).toNat (cw (spanAt h p).2.1).toNat = zer h.1 (layA h p i).toNat (cw (spanAt h p).2.1).toNat := by
      show zer ((zer _ _ _).set _ _) _ _ = _
      have hz : (zer h.1 (layA h p i).toNat (cw (spanAt h p).2.1).toNat).length = h.1.length := zer_len (by omega)
      apply List.ext_getElem?
      intro j
      rw [zer_get (by rw [List.length_set, hz]; omega), List.getElem?_set, zer_get (by omega)]
      by_cases c : (layA h p i).toNat ≤ j ∧ j < (layA h p i).toNat + (cw (spanAt h p).2.1).toNat
      · rw [if_pos c, if_pos c]
      · rw [if_neg c, if_neg c, if_neg (by omega)]
    rw [a2]; rfl
  · have := usedN_set ip ((spanAt h p).1, (spanAt h p).2.1, xr (spanAt h p).2.2.1 i, ()) ((zer h.1 (layA h p i).toNat (cw (spanAt h p).2.1).toNat).set (layA h p i).toNat (hword (spanAt h p).2.1 h.2.2.1 n))
    rw [(us1_xr h0 (by omega) (show i < 32 by omega)).1 hb] at this
    rw [show laid h p i n = ((zer h.1 (layA h p i).toNat (cw (spanAt h p).2.1).toNat).set (layA h p i).toNat (hword (spanAt h p).2.1 h.2.2.1 n), h.2.1.set p.toNat ((spanAt h p).1, (spanAt h p).2.1, xr (spanAt h p).2.2.1 i, ()), h.2.2) from rfl, this]
    omega
theorem zer_all {ws : List Int} {a k : Nat} (h : a + k ≤ ws.length) (hz : ∀ j, j < k → ws.getD (a + j) 0 = 0) : zer ws a k = ws := by
  apply List.ext_getElem?
  intro j
  rw [zer_get h]
  by_cases c : a ≤ j ∧ j < a + k
  · rw [if_pos c]
    have := hz (j - a) (by omega)
    rw [show a + (j - a) = j by omega, get_d _ _ _ (show j < ws.length by omega)] at this
    rw [List.getElem?_eq_getElem (show j < ws.length by omega), this]
  · rw [if_neg c]
theorem usedN_rng (h : Heap) (hn : h.2.1.length ≤ 16) : -16000 ≤ usedN h ∧ usedN h ≤ 16000 := by
  have := usN_rng h h.2.1.length
  unfold usedN; omega
end Go.Proofs.YtebdioogklmeaaaDoor.Den
