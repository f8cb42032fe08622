
/- Pure laws: a block freed, an object laid. -/
import Derived.Test.YtebdioogklmeaaaDoorDenRg
namespace Go.Proofs.YtebdioogklmeaaaDoor.Den
open Go
set_option linter.unusedVariables false
set_option linter.unusedSimpArgs false
set_option maxRecDepth 100000

/-- Words set to 0. -/
def zer (ws : List Int) (a k : Nat) : List Int := segSet ws a (List.replicate k 0)
theorem zer_len {ws : List Int} {a k : Nat} (h : a + k ≤ ws.length) : (zer ws a k).length = ws.length := seg_len (by simpa using h)
theorem zer_get {ws : List Int} {a k : Nat} (h : a + k ≤ ws.length) (j : Nat) : (zer ws a k)[j]? = if a ≤ j ∧ j < a + k then some 0 else ws[j]? := by
  rw [zer, seg_get (by simpa using h), List.length_replicate]
  by_cases e : a ≤ j ∧ j < a + k
  · rw [if_pos e, if_pos e, List.getElem?_replicate, if_pos (by omega)]
  · rw [if_neg e, if_neg e]
theorem zer_zero (ws : List Int) (a : Nat) : zer ws a 0 = ws := seg_nil
theorem zer_succ {ws : List Int} {a k : Nat} (h : a + k < ws.length) : (zer ws a k).set (a + k) 0 = zer ws a (k + 1) := by
  apply List.ext_getElem?
  intro j
  rw [List.getElem?_set, zer_len (by omega), zer_get (by omega), zer_get (by omega)]
  by_cases e : a + k = j
  · rw [if_pos e, if_pos h, if_pos (by omega)]
  · rw [if_neg e]
    by_cases e2 : a ≤ j ∧ j < a + k
    · rw [if_pos e2, if_pos (by omega)]
    · rw [if_neg e2, if_neg (by omega)]

theorem take_in {s : Span} (h0 : 0 ≤ s.2.2.1) (h1 : s.2.2.1 < 65536) (hs : s.1 = 1) (hz : s.2.2.1 ≠ 0) : ∃ i : Nat, i < 16 ∧ bit s.2.2.1 i = true ∧ (∀ j, j < i → bit s.2.2.1 j = false) ∧
    span_Take (s, ()) = some ((s.1, s.2.1, xr s.2.2.1 i, ()), (i : Int), true, ()) ∧ flotsamref06_Take (s, ()) = some ((s.1, s.2.1, xr s.2.2.1 i, ()), (i : Int), true, ()) := by
  obtain ⟨i, r, e1, e2, hi, hr, hb, hl, ht⟩ := (take_eq h0 h1).1 ⟨hs, hz⟩
  have : (r : Int) = xr s.2.2.1 i := bit_ext (Int.natCast_nonneg _) (xr_nonneg _ _) fun j => by
    rw [ht, xr_bit h0]
    by_cases e : j = i
    · subst e; rw [if_pos rfl, if_pos rfl, hb]; rfl
    · rw [if_neg e, if_neg e]
  rw [this] at e1 e2
  exact ⟨i, hi, hb, hl, e1, e2⟩
theorem take_out {s : Span} (h0 : 0 ≤ s.2.2.1) (h1 : s.2.2.1 < 65536) (hn : ¬ (s.1 = 1 ∧ s.2.2.1 ≠ 0)) : span_Take (s, ()) = some (s, 0, false, ()) ∧ flotsamref06_Take (s, ()) = some (s, 0, false, ()) := (take_eq h0 h1).2 hn
/-! A block is freed. -/
def blkI (h : Heap) (a : Int) : Int := a % 32 / cw (spanOf h a).2.1
def freeP (h : Heap) (a : Int) : Prop := fndB h a = true ∧ giveP (spanOf h a) (blkI h a)
def freed (h : Heap) (a : Int) : Heap :=
  (zer h.1 a.toNat (cw (spanOf h a).2.1).toNat, h.2.1.set (a / 32).toNat ((spanOf h a).1, (spanOf h a).2.1, xr (spanOf h a).2.2.1 (blkI h a).toNat, ()), h.2.2)
theorem fnd_page {h : Heap} {a : Int} (hb : fndB h a = true) : inP h (a / 32) ∧ spanAt h (a / 32) = spanOf h a := by
  have := fndB_rng hb
  exact ⟨⟨by omega, by omega⟩, rfl⟩
theorem fnd_in {h : Heap} {a : Int} (hb : fndB h a = true) : fnd h a = (a / 32, blkI h a, true, ()) := by rw [fnd, if_pos hb]; rfl
theorem fnd_out {h : Heap} {a : Int} (hb : ¬ fndB h a = true) : fnd h a = (0, 0, false, ()) := by rw [fnd, if_neg hb]
theorem fnd_room {h : Heap} (f : FormP h) {a : Int} (hb : fndB h a = true) : (0 ≤ (spanOf h a).2.1 ∧ (spanOf h a).2.1 ≤ 3) ∧ 0 ≤ a ∧ a + cw (spanOf h a).2.1 ≤ h.1.length := by
  have h1 := fndB_rng hb
  have hl := f.len
  have hb' := hb
  simp only [fndB, decide_eq_true_eq] at hb'
  have hc := f.spanAt h1.1 h1.2 hb'.2.2.1
  refine ⟨hc, h1.1, ?_⟩
  rcases class4 hc.1 hc.2 with ⟨e, _⟩ | ⟨e, _⟩ | ⟨e, _⟩ | ⟨e, _⟩ <;> rw [e] at hb' ⊢ <;> omega
theorem free7_l0 {a : Int} (h0 : 0 ≤ a) (s : Span) (x y : Bool × Unit) (ws : List Int) (ss : List Span) (hl : a + cw s.2.1 ≤ ws.length) (hw : ws.length ≤ 512) :
    flotsamref07_Free_l0 (a, 0, x, s, y, ws, ss, ()) = some (.out (x, y, zer ws a.toNat (cw s.2.1).toNat, ss, ())) := by
  have hc := cw_le s.2.1
  unfold flotsamref07_Free_l0
  refine iterL_run (cw s.2.1).toNat (fun i => (a, (i : Int), x, s, y, zer ws a.toNat i, ss, ())) (fun i hi => ?_) ?_ (by omega) (by simp only [zer_zero]; rfl)
  · simp only [flotsamref07_Free_s0, flotsamref07_Free_s0r, Bool.cond_decide, words4_eq, Option.bind_some]
    rw [if_pos (by omega), wi64_id (by omega) (by omega), wi64_id (by omega) (by omega), if_pos (by omega), zer_len (by omega), if_pos (by omega), show (a + (i : Int)).toNat = a.toNat + i by omega, zer_succ (by omega)]
    rfl
  · simp only [flotsamref07_Free_s0, flotsamref07_Free_s0r, Bool.cond_decide, words4_eq, Option.bind_some]
    rw [if_neg (by omega)]
/-! An object is laid. -/
def hword (c : Int) (col : Bool) (n : Int) : Int := 128 + 16 * c + n + (bif col then 64 else 0)
theorem put_used {c n : Int} (c0 : 0 ≤ c) (c3 : c ≤ 3) (n0 : 0 ≤ n) (n1 : n < cw c) (col : Bool) : header_Put ((true, col, c, n, ()), ()) = some (hword c col n, true, ()) ∧ flotsamref02_Put ((true, col, c, n, ()), ()) = some (hword c col n, ()) := by
  have : ([true, false].all fun col => (List.range 4).all fun c => (List.range 16).all fun n => !decide ((n : Int) < cw c) ||
    (decide (header_Put ((true, col, (c : Int), (n : Int), ()), ()) = some (hword c col n, true, ())) && decide (flotsamref02_Put ((true, col, (c : Int), (n : Int), ()), ()) = some (hword c col n, ())))) = true := by kernel_rfl
  obtain ⟨c, rfl⟩ := Int.eq_ofNat_of_zero_le c0
  obtain ⟨n, rfl⟩ := Int.eq_ofNat_of_zero_le n0
  have hc := cw_le c
  simp only [List.all_eq_true] at this
  have h := this col (by cases col <;> simp) c (by simp; omega) n (by simp; omega)
  rw [decide_eq_true n1, Bool.not_true, Bool.false_or, Bool.and_eq_true] at h
  exact ⟨of_decide_eq_true h.1, of_decide_eq_true h.2⟩
def layP (h : Heap) (p n : Int) : Prop := inP h p ∧ (spanAt h p).1 = 1 ∧ (spanAt h p).2.2.1 ≠ 0 ∧ 0 ≤ n ∧ n < cw (spanAt h p).2.1
def lowP (m : Int) (i : Nat) : Prop := bit m i = true ∧ ∀ j, j < i → bit m j = false
theorem lowP.uniq {m : Int} {i j : Nat} (a : lowP m i) (b : lowP m j) : i = j := by
  rcases Nat.lt_trichotomy i j with h | h | h
  · have := b.2 i h; rw [a.1] at this; cases this
  · exact h
  · have := a.2 j h; rw [b.1] at this; cases this
def layA (h : Heap) (p : Int) (i : Nat) : Int := 32 * p + i * cw (spanAt h p).2.1
def laid (h : Heap) (p : Int) (i : Nat) (n : Int) : Heap :=
  ((zer h.1 (layA h p i).toNat (cw (spanAt h p).2.1).toNat).set (layA h p i).toNat (hword (spanAt h p).2.1 h.2.2.1 n), h.2.1.set p.toNat ((spanAt h p).1, (spanAt h p).2.1, xr (spanAt h p).2.2.1 i, ()), h.2.2)
theorem bit_room {m : Int} (h0 : 0 ≤ m) {k i : Nat} (h : m < 2 ^ k) (hb : bit m i = true) : i < k := by
  apply Nat.lt_of_not_ge
  intro hk
  rw [bit_lt h0 h hk] at hb; cases hb
theorem lay_room {h : Heap} (f : FormP h) (hf : FreeP h) {p : Int} (ip : inP h p) (hs : (spanAt h p).1 ≠ 0) {i : Nat} (hb : (i : Int) < cb (spanAt h p).2.1) :
    (0 ≤ (spanAt h p).2.1 ∧ (spanAt h p).2.1 ≤ 3) ∧ 0 ≤ (i : Int) * cw (spanAt h p).2.1 ∧ (i : Int) * cw (spanAt h p).2.1 ≤ 32 - cw (spanAt h p).2.1 := by
  obtain ⟨hu, c0, c3, hlt⟩ := right_use (f.right _ ip.mem) hs
  refine ⟨⟨c0, c3⟩, ?_⟩
  rcases class4 c0 c3 with ⟨e, e'⟩ | ⟨e, e'⟩ | ⟨e, e'⟩ | ⟨e, e'⟩ <;> rw [e'] at hb <;> rw [e] <;> omega
theorem lay_low {h : Heap} (f : FormP h) (hf : FreeP h) {p : Int} (ip : inP h p) (hs : (spanAt h p).1 ≠ 0) {i : Nat} (hb : bit (spanAt h p).2.2.1 i = true) : (i : Int) < cb (spanAt h p).2.1 := by
  obtain ⟨hu, c0, c3, hlt⟩ := right_use (f.right _ ip.mem) hs
  have := bit_room (hf _ ip.mem) hlt hb
  have := cb_le (spanAt h p).2.1
  omega
theorem lay7_l0 {a : Int} (h0 : 0 ≤ a) (n : Int) (h : Heap) (s : Span) (x y : Bool × Unit) (ws : List Int) (ss : List Span) (hl : a + cw s.2.1 ≤ ws.length) (hw : ws.length ≤ 512) :
    flotsamref07_Lay_l0 (n, a, 0, h, x, s, y, ws, ss, ()) = some (.out (n, a, h, x, s, y, zer ws a.toNat (cw s.2.1).toNat, ss, ())) := by
  have hc := cw_le s.2.1
  unfold flotsamref07_Lay_l0
  refine iterL_run (cw s.2.1).toNat (fun i => (n, a, (i : Int), h, x, s, y, zer ws a.toNat i, ss, ())) (fun i hi => ?_) ?_ (by omega) (by simp only [zer_zero]; rfl)
  · simp only [flotsamref07_Lay_s0, flotsamref07_Lay_s0r, Bool.cond_decide, words4_eq, Option.bind_some]
    rw [if_pos (by omega), wi64_id (by omega) (by omega), wi64_id (by omega) (by omega), if_pos (by omega), zer_len (by omega), if_pos (by omega), show (a + (i : Int)).toNat = a.toNat + i by omega, zer_succ (by omega)]
    rfl
  · simp only [flotsamref07_Lay_s0, flotsamref07_Lay_s0r, Bool.cond_decide, words4_eq, Option.bind_some]
    rw [if_neg (by omega)]
theorem getD_set_self {α : Type} {l : List α} {n : Nat} (hn : n < l.length) (x z : α) : (l.set n x).getD n z = x := by
  rw [get_d _ _ _ (by rw [List.length_set]; exact hn), List.getElem_set_self]
theorem lay_in {h : Heap} (f : FormP h) (hf : FreeP h) {p n : Int} (q : layP h p n) : ∃ i : Nat, lowP (spanAt h p).2.2.1 i ∧ (i : Int) < cb (spanAt h p).2.1 ∧
    heap_Lay (h, p, n, ()) = some (laid h p i n, layA h p i, true, ()) ∧ flotsamref07_Lay (h, p, n, ()) = some (laid h p i n, layA h p i, true, ()) := by
  obtain ⟨ip, hs, hz, n0, n1⟩ := q
  have hR := f.right _ ip.mem
  have h0 := hf _ ip.mem
  obtain ⟨i, hi, hb, hlow, t1, t2⟩ := take_in h0 (rightB_free hR h0) hs hz
  have hib := lay_low f hf ip (by omega) hb
  obtain ⟨⟨c0, c3⟩, m0, m1⟩ := lay_room f hf ip (by omega) hib
  have hn := f.n16
  have hl := f.len
  have i0 := ip.1
  have i1 := ip.2
  have hw := cw_le (spanAt h p).2.1
  have hset : p.toNat < h.2.1.length := by omega
  refine ⟨i, ⟨hb, hlow⟩, hib, ?_, ?_⟩
  · simp only [heap_Lay, heap_Lay_r, page_in ip, t1, class_Fields_eq, clone8_eq (show h.1.length ≤ 512 by omega), clone24_eq (show h.2.1.length ≤ 512 by omega), Option.bind_some, Bool.cond_decide, condn, cond_true, Bool.not_true, cond_false]
    simp only [show ((0 : Int), (0 : Int), (0 : Int), ()) = sz from rfl, List.length_set, getD_set_self hset]
    rw [if_pos (by omega), if_pos (show 0 ≤ (spanAt h p).2.1 ∧ (spanAt h p).2.1 < 4 by omega), if_pos (by omega), if_pos i0, if_pos i1, if_pos i0, if_pos i1]
    simp only [arena_Address, arena_Address_r, class_Blocks_eq, class_Words_eq, (put_used c0 c3 n0 n1 _).1, Option.bind_some, Bool.cond_decide]
    rw [if_neg (by omega), if_neg (by omega), if_neg (by omega), if_neg (by omega), Option.bind_some]
    dsimp only
    rw [wi64_id (n := p * 32) (by omega) (by omega), wi64_id (n := (i : Int) * cw (spanAt h p).2.1) (by omega) (by omega), wi64_id (n := p * 32 + (i : Int) * cw (spanAt h p).2.1) (by omega) (by omega), wi64_id (by omega) (by omega)]
    rw [show p * 32 + (i : Int) * cw (spanAt h p).2.1 = layA h p i by unfold layA; omega]
    have hA : 0 ≤ layA h p i ∧ layA h p i + cw (spanAt h p).2.1 ≤ h.1.length := by unfold layA; omega
    rw [show (layA h p i + cw (spanAt h p).2.1).toNat - (layA h p i).toNat = (cw (spanAt h p).2.1).toNat by omega]
    change (if 0 ≤ layA h p i then if layA h p i ≤ layA h p i + cw (spanAt h p).2.1 then if layA h p i + cw (spanAt h p).2.1 ≤ (h.1.length : Int) then if 0 ≤ layA h p i then if layA h p i < ((zer h.1 (layA h p i).toNat (cw (spanAt h p).2.1).toNat).length : Int) then some (((zer h.1 (layA h p i).toNat (cw (spanAt h p).2.1).toNat).set (layA h p i).toNat _, _, _), _, _, _) else none else none else none else none else none) = _
    have h2 := cw_pos c0 c3
    rw [if_pos (by omega), if_pos (by omega), if_pos (by omega), if_pos (by omega), zer_len (by omega), if_pos (by omega)]
    rfl
  · simp only [flotsamref07_Lay, flotsamref07_Lay_r, Bool.cond_decide, words4_eq, Option.bind_some]
    simp only [show ((0 : Int), (0 : Int), (0 : Int), ()) = sz from rfl]
    change (if p < 0 then _ else if p ≥ (h.2.1.length : Int) then _ else if n < 0 then _ else if 0 ≤ p then if p < (h.2.1.length : Int) then if n ≥ cw (spanAt h p).2.1 then _ else if 0 ≤ p then if p < (h.2.1.length : Int) then (flotsamref06_Take (spanAt h p, ())).bind _ else _ else _ else _ else _) = _
    rw [if_neg (by omega), if_neg (by omega), if_neg (by omega), if_pos i0, if_pos i1, if_neg (by omega), if_pos i0, if_pos i1, t2, Option.bind_some]
    simp only [Bool.not_true, cond_false, with7_in f ip, Option.bind_some, flotsamref05_Address, flotsamref05_Address_r, blocks4_eq, words4_eq, Bool.cond_decide]
    rw [if_neg (by omega), if_neg (by omega), if_neg (by omega), if_neg (by omega), Option.bind_some]
    dsimp only
    rw [wi64_id (n := 32 * p) (by omega) (by omega), wi64_id (n := (i : Int) * cw (spanAt h p).2.1) (by omega) (by omega), wi64_id (by omega) (by omega)]
    rw [show 32 * p + (i : Int) * cw (spanAt h p).2.1 = layA h p i from rfl]
    have hA : 0 ≤ layA h p i ∧ layA h p i + cw (spanAt h p).2.1 ≤ h.1.length := by unfold layA; omega
    have h2 := cw_pos c0 c3
    rw [lay7_l0 hA.1 _ _ _ _ _ _ _ (by exact hA.2) (by show h.1.length ≤ 512; omega)]
    simp only [Option.bind_some, (put_used c0 c3 n0 n1 _).2]
    change (if 0 ≤ layA h p i then if layA h p i < ((zer h.1 (layA h p i).toNat (cw (spanAt h p).2.1).toNat).length : Int) then _ else _ else _) = _
    rw [if_pos (by omega), zer_len (by omega), if_pos (by omega)]
    rfl
theorem lay_out {h : Heap} (f : FormP h) (hf : FreeP h) {p n : Int} (q : ¬ layP h p n) : heap_Lay (h, p, n, ()) = some (h, 0, false, ()) ∧ flotsamref07_Lay (h, p, n, ()) = some (h, 0, false, ()) := by
  by_cases ip : inP h p
  · have hR := f.right _ ip.mem
    have h0 := hf _ ip.mem
    have i0 := ip.1
    have i1 := ip.2
    have hc : n < cw (spanAt h p).2.1 → ¬ n < 0 → ¬ ((spanAt h p).1 = 1 ∧ (spanAt h p).2.2.1 ≠ 0) := fun h1 h2 h3 => q ⟨ip, h3.1, h3.2, by omega, h1⟩
    constructor
    · by_cases ht : (spanAt h p).1 = 1 ∧ (spanAt h p).2.2.1 ≠ 0
      · obtain ⟨i, hi, hb, hlow, t1, t2⟩ := take_in h0 (rightB_free hR h0) ht.1 ht.2
        obtain ⟨hu, c0, c3, hlt⟩ := right_use hR (show (spanAt h p).1 ≠ 0 by omega)
        simp only [heap_Lay, heap_Lay_r, page_in ip, t1, class_Fields_eq, Option.bind_some, Bool.cond_decide, condn, cond_true]
        by_cases n0 : n ≥ 0
        · rw [if_pos n0, if_pos (show 0 ≤ (spanAt h p).2.1 ∧ (spanAt h p).2.1 < 4 by omega), if_neg (fun h4 => hc (by omega) (by omega) ht)]
        · rw [if_neg n0]
      · have t1 := (take_out h0 (rightB_free hR h0) ht).1
        simp only [heap_Lay, heap_Lay_r, page_in ip, t1, Option.bind_some, condn, cond_true, cond_false]
    · simp only [flotsamref07_Lay, flotsamref07_Lay_r, Bool.cond_decide, words4_eq, Option.bind_some]
      simp only [show ((0 : Int), (0 : Int), (0 : Int), ()) = sz from rfl]
      change (if p < 0 then _ else if p ≥ (h.2.1.length : Int) then _ else if n < 0 then _ else if 0 ≤ p then if p < (h.2.1.length : Int) then if n ≥ cw (spanAt h p).2.1 then _ else if 0 ≤ p then if p < (h.2.1.length : Int) then (flotsamref06_Take (spanAt h p, ())).bind _ else _ else _ else _ else _) = _
      rw [if_neg (by omega), if_neg (by omega)]
      by_cases n0 : n < 0
      · rw [if_pos n0]
      rw [if_neg n0, if_pos i0, if_pos i1]
      by_cases n1 : n ≥ cw (spanAt h p).2.1
      · rw [if_pos n1]
      have t2 := (take_out h0 (rightB_free hR h0) (hc (by omega) n0)).2
      rw [if_neg n1, if_pos i0, if_pos i1, t2, Option.bind_some]
      rfl
  · constructor
    · simp only [heap_Lay, heap_Lay_r, page_out ip, Option.bind_some, Bool.not_false, cond_true]
    · simp only [flotsamref07_Lay, flotsamref07_Lay_r, Bool.cond_decide]
      by_cases h1 : p < 0
      · rw [if_pos h1]
      · rw [if_neg h1, if_pos (by unfold inP at ip; omega)]
end Go.Proofs.YtebdioogklmeaaaDoor.Den
