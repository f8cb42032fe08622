
/- Pure laws: what deeds keep of a heap and a list of its objects. -/
import Derived.Test.YtebdioogklmeaaaDoorDenRj
namespace Go.Proofs.YtebdioogklmeaaaDoor.Den
open Go
set_option linter.unusedVariables false
set_option linter.unusedSimpArgs false
set_option maxRecDepth 100000

def blkS (s : Span) (a : Int) : Int := a % 32 / cw s.2.1
def freeS (s : Span) (a : Int) : Prop := s.1 ≠ 0 ∧ a % cw s.2.1 = 0 ∧ giveP s (blkS s a)
theorem freeP_iff {h : Heap} {a : Int} : freeP h a ↔ 0 ≤ a ∧ a < 32 * h.2.1.length ∧ freeS (spanOf h a) a := by
  unfold freeP fndB freeS blkI blkS
  rw [decide_eq_true_iff]
  exact ⟨fun ⟨⟨a, b, c, d⟩, e⟩ => ⟨a, b, c, d, e⟩, fun ⟨a, b, c, d, e⟩ => ⟨⟨a, b, c, d⟩, e⟩⟩
theorem freeS_sz (a : Int) : ¬ freeS sz a := fun h => h.1 rfl
theorem freeS_full {s : Span} (h : s.2.2.1 = 2 ^ (cb s.2.1).toNat - 1) (a : Int) : ¬ freeS s a := by
  rintro ⟨_, _, _, h0, h1, hb⟩
  rw [h, bit_whole, decide_eq_false_iff_not] at hb
  omega
theorem freeS_xr {s : Span} (h0 : 0 ≤ s.2.2.1) {i : Nat} {a : Int} : freeS (s.1, s.2.1, xr s.2.2.1 i, ()) a ↔ s.1 ≠ 0 ∧ a % cw s.2.1 = 0 ∧ (s.1 = 1 ∨ s.1 = 2) ∧ 0 ≤ blkS s a ∧ blkS s a < cb s.2.1 ∧ (if (blkS s a).toNat = i then !bit s.2.2.1 (blkS s a).toNat else bit s.2.2.1 (blkS s a).toNat) = false := by
  unfold freeS giveP
  rw [show blkS (s.1, s.2.1, xr s.2.2.1 i, ()) a = blkS s a from rfl]
  dsimp only
  rw [xr_bit h0]
theorem freeS_lay {s : Span} (h0 : 0 ≤ s.2.2.1) (hs : s.1 = 1) (c0 : 0 ≤ s.2.1) (c3 : s.2.1 ≤ 3) {i : Nat} (hi : (i : Int) < cb s.2.1) (hb : bit s.2.2.1 i = true) {a : Int} :
    freeS (s.1, s.2.1, xr s.2.2.1 i, ()) a ↔ freeS s a ∨ a = 32 * (a / 32) + i * cw s.2.1 := by
  have key : a % cw s.2.1 = 0 ∧ blkS s a = i ↔ a = 32 * (a / 32) + i * cw s.2.1 := by
    unfold blkS
    rcases class4 c0 c3 with ⟨e, e'⟩ | ⟨e, e'⟩ | ⟨e, e'⟩ | ⟨e, e'⟩ <;> rw [e'] at hi <;> rw [e] <;> omega
  rw [freeS_xr h0]
  constructor
  · rintro ⟨a1, a2, a3, a4, a5, a6⟩
    by_cases e : (blkS s a).toNat = i
    · exact .inr (key.1 ⟨a2, by omega⟩)
    · rw [if_neg e] at a6
      exact .inl ⟨a1, a2, a3, a4, a5, a6⟩
  · rintro (⟨a1, a2, a3, a4, a5, a6⟩ | e)
    · refine ⟨a1, a2, a3, a4, a5, ?_⟩
      rw [if_neg, a6]
      intro e; rw [e, hb] at a6; cases a6
    · obtain ⟨k1, k2⟩ := key.2 e
      refine ⟨by omega, k1, .inl hs, by omega, by omega, ?_⟩
      rw [k2, Int.toNat_natCast, if_pos rfl, hb]; rfl
theorem freeS_free {s : Span} (h0 : 0 ≤ s.2.2.1) (c0 : 0 ≤ s.2.1) (c3 : s.2.1 ≤ 3) {b : Int} (hf : freeS s b) {a : Int} (hp : a / 32 = b / 32) :
    freeS (s.1, s.2.1, xr s.2.2.1 (blkS s b).toNat, ()) a ↔ freeS s a ∧ a ≠ b := by
  obtain ⟨b1, b2, b3, b4, b5, b6⟩ := hf
  have key : a % cw s.2.1 = 0 → blkS s a = blkS s b → a = b := by
    unfold blkS
    rcases class4 c0 c3 with ⟨e, e'⟩ | ⟨e, e'⟩ | ⟨e, e'⟩ | ⟨e, e'⟩ <;> rw [e] at b2 ⊢ <;> omega
  rw [freeS_xr h0]
  constructor
  · rintro ⟨a1, a2, a3, a4, a5, a6⟩
    by_cases e : (blkS s a).toNat = (blkS s b).toNat
    · rw [if_pos e, e, b6] at a6; cases a6
    · rw [if_neg e] at a6
      exact ⟨⟨a1, a2, a3, a4, a5, a6⟩, fun h => e (by rw [h])⟩
  · rintro ⟨⟨a1, a2, a3, a4, a5, a6⟩, hne⟩
    refine ⟨a1, a2, a3, a4, a5, ?_⟩
    rw [if_neg (fun e => hne (key a2 (by omega))), a6]
theorem spanOf_set {h : Heap} {p : Int} (ip : inP h p) (s : Span) (ws : List Int) (y : Bool × Unit) {a : Int} (ha : 0 ≤ a) : spanOf (ws, h.2.1.set p.toNat s, y) a = if a / 32 = p then s else spanOf h a := by
  obtain ⟨n, rfl, hn, e⟩ := ip.nat
  unfold spanOf
  show (h.2.1.set _ _).getD _ sz = _
  rw [Int.toNat_natCast]
  by_cases c : a / 32 = n
  · rw [if_pos c, c, Int.toNat_natCast, getD_set_self hn]
  · rw [if_neg c]
    simp only [List.getD, List.getElem?_set, if_neg (show ¬ n = (a / 32).toNat by omega)]

def szOf (h : Heap) (a : Int) : Int := cw (spanOf h a).2.1
def sumI : List Int → Int
  | [] => 0
  | a :: l => a + sumI l
theorem sumI_app : ∀ a b : List Int, sumI (a ++ b) = sumI a + sumI b
  | [], b => by simp [sumI]
  | x :: a, b => by
    simp only [List.cons_append, sumI, sumI_app a b]; omega
theorem sumI_filter {f : Int → Int} {b : Int} : ∀ l : List Int, l.Nodup → b ∈ l → sumI ((l.filter fun a => decide (¬ a = b)).map f) = sumI (l.map f) - f b
  | [], _, h => by cases h
  | x :: l, hn, h => by
    obtain ⟨h1, h2⟩ := List.nodup_cons.1 hn
    by_cases e : x = b
    · subst e
      have : (l.filter fun a => decide (¬ a = x)) = l := by
        rw [List.filter_eq_self]
        intro a ha
        exact decide_eq_true (fun e => h1 (e ▸ ha))
      rw [List.filter_cons_of_neg (by simp), this]
      simp only [List.map_cons, sumI]; omega
    · have hm : b ∈ l := by
        rcases List.mem_cons.1 h with h | h
        · exact absurd h.symm e
        · exact h
      rw [List.filter_cons_of_pos (by simpa using e)]
      simp only [List.map_cons, sumI]
      rw [sumI_filter l h2 hm]; omega

structure Inv (n : Nat) (h : Heap) (l : List Int) : Prop where
  hp : HP h
  len : h.2.1.length = n
  nd : l.Nodup
  mem : ∀ a, a ∈ l ↔ freeP h a
  hdr : ∀ a ∈ l, ∃ b k, 0 ≤ k ∧ k < szOf h a ∧ h.1.getD a.toNat 0 = hword (spanOf h a).2.1 b k
  nz : ∀ j : Nat, h.1.getD j 0 ≠ 0 → (j : Int) ∈ l
  sum : usedN h = sumI (l.map (szOf h))

theorem map_congr_mem {f g : Int → Int} : ∀ {l : List Int}, (∀ a ∈ l, f a = g a) → l.map f = l.map g := fun h => List.map_congr_left h

/-- A page without objects becomes another one without objects. -/
theorem inv_page {n : Nat} {h : Heap} {l : List Int} (v : Inv n h l) {p : Int} (ip : inP h p) {s : Span} (hn : ∀ a, ¬ freeS (spanAt h p) a) (hn' : ∀ a, ¬ freeS s a) (hr : rightB s = true) (h0 : 0 ≤ s.2.2.1) (hu : us1 s = us1 (spanAt h p)) :
    Inv n (setSp h p s) l ∧ l.map (szOf (setSp h p s)) = l.map (szOf h) := by
  have hsp : ∀ a, 0 ≤ a → spanOf (setSp h p s) a = if a / 32 = p then s else spanOf h a := fun a ha => spanOf_set ip s h.1 h.2.2 ha
  have hlen : (setSp h p s).2.1.length = h.2.1.length := List.length_set
  have hel : ∀ a, 0 ≤ a → a / 32 = p → spanOf h a = spanAt h p := fun a ha e => by unfold spanOf spanAt; rw [e]
  have hsame : ∀ a ∈ l, spanOf (setSp h p s) a = spanOf h a := fun a ha => by
    obtain ⟨a0, a1, af⟩ := freeP_iff.1 ((v.mem a).1 ha)
    rw [hsp a a0, if_neg]
    intro e
    rw [hel a a0 e] at af
    exact hn a af
  have hmap : l.map (szOf (setSp h p s)) = l.map (szOf h) := map_congr_mem fun a ha => by unfold szOf; rw [hsame a ha]
  refine ⟨⟨hp_setSp v.hp p hr h0, hlen.trans v.len, v.nd, fun a => ?_, fun a ha => ?_, v.nz, ?_⟩, hmap⟩
  · rw [v.mem, freeP_iff, freeP_iff, hlen]
    constructor
    · rintro ⟨a0, a1, af⟩
      refine ⟨a0, a1, ?_⟩
      rw [hsp a a0, if_neg]
      · exact af
      · intro e
        rw [hel a a0 e] at af
        exact hn a af
    · rintro ⟨a0, a1, af⟩
      refine ⟨a0, a1, ?_⟩
      rw [hsp a a0] at af
      by_cases e : a / 32 = p
      · rw [if_pos e] at af; exact absurd af (hn' a)
      · rw [if_neg e] at af; exact af
  · obtain ⟨b, k, k0, k1, e⟩ := v.hdr a ha
    refine ⟨b, k, k0, ?_, ?_⟩
    · unfold szOf; rw [hsame a ha]; exact k1
    · rw [hsame a ha]; exact e
  · rw [hmap, ← v.sum]
    have := usedN_set ip s h.1
    rw [hu] at this
    rw [show setSp h p s = (h.1, h.2.1.set p.toNat s, h.2.2) from rfl, this]; omega
theorem inv_open {n : Nat} {h : Heap} {l : List Int} (v : Inv n h l) {p c : Int} (i : openP h p c) : Inv n (opened h p c) l ∧ l.map (szOf (opened h p c)) = l.map (szOf h) := by
  obtain ⟨ip, c0, c3, hs⟩ := i
  have es : spanAt h p = sz := right_free (v.hp.f.right _ ip.mem) hs
  refine inv_page v ip (fun a => by rw [es]; exact freeS_sz a) (freeS_full rfl) (right_new c0 c3).1 (right_new c0 c3).2 ?_
  rw [us1_new c0 c3, es, us1_sz]
theorem us1_full {s : Span} (hr : rightB s = true) (h0 : 0 ≤ s.2.2.1) (hu : s.1 ≠ 0) (h : s.2.2.1 = 2 ^ (cb s.2.1).toNat - 1) : us1 s = 0 := by
  have := (full_iff hr h0 hu).2 h
  unfold us1
  rw [if_neg hu, this, Int.sub_self, Int.zero_mul]
theorem inv_close {n : Nat} {h : Heap} {l : List Int} (v : Inv n h l) {p : Int} (i : closeP h p) : Inv n (setSp h p sz) l ∧ l.map (szOf (setSp h p sz)) = l.map (szOf h) := by
  obtain ⟨ip, hu, hs⟩ := i
  refine inv_page v ip (freeS_full hs) freeS_sz right_sz (by show (0 : Int) ≤ 0; omega) ?_
  rw [us1_sz, us1_full (v.hp.f.right _ ip.mem) (v.hp.fr _ ip.mem) hu hs]
theorem getD_set_ne {α : Type} {l : List α} {i j : Nat} (h : i ≠ j) (x z : α) : (l.set i x).getD j z = l.getD j z := by
  simp only [List.getD, List.getElem?_set, if_neg h]
theorem zer_getD {ws : List Int} {a k : Nat} (h : a + k ≤ ws.length) (j : Nat) : (zer ws a k).getD j 0 = if a ≤ j ∧ j < a + k then 0 else ws.getD j 0 := by
  simp only [List.getD, zer_get h]
  split <;> rfl
/-- Blocks lie apart. -/
theorem blk_apart {h : Heap} (q : HP h) {a b : Int} (ha : freeP h a) (hb : freeP h b) (hne : a < b) : a + szOf h a ≤ b := by
  obtain ⟨a0, a1, af⟩ := freeP_iff.1 ha
  obtain ⟨b0, b1, bf⟩ := freeP_iff.1 hb
  obtain ⟨⟨c0, c3⟩, _, _⟩ := fnd_room q.f ha.1
  unfold szOf
  by_cases e : a / 32 = b / 32
  · have es : spanOf h b = spanOf h a := by unfold spanOf; rw [e]
    rw [es] at bf
    have h1 := af.2.1
    have h2 := bf.2.1
    rcases class4 c0 c3 with ⟨e, _⟩ | ⟨e, _⟩ | ⟨e, _⟩ | ⟨e, _⟩ <;> rw [e] at h1 h2 ⊢ <;> omega
  · have h1 := af.2.1
    rcases class4 c0 c3 with ⟨e, _⟩ | ⟨e, _⟩ | ⟨e, _⟩ | ⟨e, _⟩ <;> rw [e] at h1 ⊢ <;> omega
theorem inv_lay {n : Nat} {h : Heap} {l : List Int} (v : Inv n h l) {p k : Int} (q : layP h p k) {i : Nat} (hlow : lowP (spanAt h p).2.2.1 i) (hi : (i : Int) < cb (spanAt h p).2.1) :
    Inv n (laid h p i k) (l ++ [layA h p i]) ∧ (l ++ [layA h p i]).map (szOf (laid h p i k)) = l.map (szOf h) ++ [cw (spanAt h p).2.1] := by
  have hlp := laid_hp v.hp q hi
  have hused := (lay_back v.hp q hlow.1 hi).2.2.2
  obtain ⟨ip, hs, hz, k0, k1⟩ := q
  have hR := v.hp.f.right _ ip.mem
  have h0 := v.hp.fr _ ip.mem
  obtain ⟨_, c0, c3, _⟩ := right_use hR (show (spanAt h p).1 ≠ 0 by omega)
  obtain ⟨e1, e2, e3, l0, l1, l2⟩ := layA_facts v.hp ip (by omega) hi
  have hlen := v.hp.f.len
  have hw := cw_pos c0 c3
  have hA : layA h p i + cw (spanAt h p).2.1 ≤ h.1.length := by have := ip.2; omega
  have hel : ∀ a, a / 32 = p → spanOf h a = spanAt h p := fun a e => by unfold spanOf spanAt; rw [e]
  have hsp : ∀ a, 0 ≤ a → spanOf (laid h p i k) a = if a / 32 = p then ((spanAt h p).1, (spanAt h p).2.1, xr (spanAt h p).2.2.1 i, ()) else spanOf h a := fun a ha => spanOf_set ip _ _ _ ha
  have hlen' : (laid h p i k).2.1.length = h.2.1.length := List.length_set
  have hcl : ∀ a, 0 ≤ a → (spanOf (laid h p i k) a).2.1 = (spanOf h a).2.1 := fun a ha => by
    rw [hsp a ha]
    by_cases e : a / 32 = p
    · rw [if_pos e, hel a e]
    · rw [if_neg e]
  have hnot : ¬ freeP h (layA h p i) := fun hf => by
    have := hf.2.2.2.2
    rw [hel _ e1, show blkI h (layA h p i) = i by unfold blkI; rw [hel _ e1, e3], Int.toNat_natCast, hlow.1] at this
    cases this
  have hnm : layA h p i ∉ l := fun hm => hnot ((v.mem _).1 hm)
  have hnn : ∀ a ∈ l, 0 ≤ a := fun a ha => (freeP_iff.1 ((v.mem a).1 ha)).1
  have hmem : ∀ a, a ∈ l ++ [layA h p i] ↔ freeP (laid h p i k) a := fun a => by
    rw [List.mem_append, List.mem_singleton, v.mem, freeP_iff, freeP_iff, hlen']
    constructor
    · rintro (⟨a0, a1, af⟩ | rfl)
      · refine ⟨a0, a1, ?_⟩
        rw [hsp a a0]
        by_cases e : a / 32 = p
        · rw [hel a e] at af
          rw [if_pos e]; exact (freeS_lay h0 hs c0 c3 hi hlow.1).2 (.inl af)
        · rw [if_neg e]; exact af
      · refine ⟨l0, l1, ?_⟩
        rw [hsp _ l0, if_pos e1]
        refine (freeS_lay h0 hs c0 c3 hi hlow.1).2 (.inr ?_)
        rw [e1]; rfl
    · rintro ⟨a0, a1, af⟩
      rw [hsp a a0] at af
      by_cases e : a / 32 = p
      · rw [if_pos e] at af
        rcases (freeS_lay h0 hs c0 c3 hi hlow.1).1 af with af | e'
        · exact .inl ⟨a0, a1, by rw [hel a e]; exact af⟩
        · rw [e] at e'; exact .inr e'
      · rw [if_neg e] at af
        exact .inl ⟨a0, a1, af⟩
  have hword : ∀ j : Nat, (laid h p i k).1.getD j 0 = if (j : Int) = layA h p i then hword (spanAt h p).2.1 h.2.2.1 k else if layA h p i ≤ j ∧ (j : Int) < layA h p i + cw (spanAt h p).2.1 then 0 else h.1.getD j 0 := fun j => by
    show ((zer _ _ _).set _ _).getD j 0 = _
    have hzl : (zer h.1 (layA h p i).toNat (cw (spanAt h p).2.1).toNat).length = h.1.length := zer_len (by omega)
    by_cases e : (j : Int) = layA h p i
    · rw [if_pos e, show (layA h p i).toNat = j by omega]
      exact getD_set_self (by rw [show j = (layA h p i).toNat by omega, hzl]; omega) _ _
    · rw [if_neg e, getD_set_ne (by omega), zer_getD (by omega)]
      by_cases c : layA h p i ≤ j ∧ (j : Int) < layA h p i + cw (spanAt h p).2.1
      · rw [if_pos c, if_pos (by omega)]
      · rw [if_neg c, if_neg (by omega)]
  have hApart : ∀ a ∈ l, ¬ (layA h p i ≤ a ∧ a < layA h p i + cw (spanAt h p).2.1) := fun a ha hc => by
    have hf1 := (hmem a).1 (List.mem_append.2 (.inl ha))
    have hf2 := (hmem (layA h p i)).1 (List.mem_append.2 (.inr (List.mem_singleton.2 rfl)))
    have hne : layA h p i < a := by
      rcases Int.lt_or_eq_of_le hc.1 with h | h
      · exact h
      · exact absurd (h ▸ ha) hnm
    have := blk_apart hlp hf2 hf1 hne
    unfold szOf at this
    rw [hcl _ l0, hel _ e1] at this
    omega
  have hmap : (l ++ [layA h p i]).map (szOf (laid h p i k)) = l.map (szOf h) ++ [cw (spanAt h p).2.1] := by
    rw [List.map_append]
    congr 1
    · exact map_congr_mem fun a ha => by unfold szOf; rw [hcl a (hnn a ha)]
    · simp only [List.map_cons, List.map_nil, szOf]
      rw [hcl _ l0, hel _ e1]
  refine ⟨⟨hlp, hlen'.trans v.len, ?_, hmem, fun a ha => ?_, fun j hj => ?_, ?_⟩, hmap⟩
  · rw [List.nodup_append]
    refine ⟨v.nd, by simp, fun a ha b hb e => ?_⟩
    rw [List.mem_singleton] at hb
    subst hb; subst e; exact hnm ha
  · rcases List.mem_append.1 ha with ha | ha
    · obtain ⟨b, m, m0, m1, e⟩ := v.hdr a ha
      have a0 := hnn a ha
      refine ⟨b, m, m0, ?_, ?_⟩
      · unfold szOf; rw [hcl a a0]; exact m1
      · rw [hword, hcl a a0, if_neg, if_neg]
        · exact e
        · have := hApart a ha; omega
        · intro e'; exact hnm (by rw [← e', Int.toNat_of_nonneg a0]; exact ha)
    · rw [List.mem_singleton] at ha
      subst ha
      refine ⟨h.2.2.1, k, k0, ?_, ?_⟩
      · unfold szOf; rw [hcl _ l0, hel _ e1]; exact k1
      · rw [hword, if_pos (by omega), hcl _ l0, hel _ e1]
  · rw [hword] at hj
    by_cases e : (j : Int) = layA h p i
    · rw [e]; exact List.mem_append.2 (.inr (List.mem_singleton.2 rfl))
    · rw [if_neg e] at hj
      split at hj
      · exact absurd rfl hj
      · exact List.mem_append.2 (.inl (v.nz j hj))
  · rw [hmap, hused, v.sum, sumI_app]
    simp only [sumI]; omega
theorem inv_free {n : Nat} {h : Heap} {l : List Int} (v : Inv n h l) {b : Int} (hf : freeP h b) :
    Inv n (freed h b) (l.filter fun a => decide (¬ a = b)) ∧ (l.filter fun a => decide (¬ a = b)).map (szOf (freed h b)) = (l.filter fun a => decide (¬ a = b)).map (szOf h) := by
  have hfp := freed_hp v.hp hf
  obtain ⟨b0, b1, bf⟩ := freeP_iff.1 hf
  obtain ⟨⟨c0, c3⟩, _, hroom⟩ := fnd_room v.hp.f hf.1
  obtain ⟨ip, es⟩ := fnd_page hf.1
  have h0 := v.hp.fr _ ip.mem
  rw [es] at h0
  have hlen := v.hp.f.len
  have hw := cw_pos c0 c3
  have hel : ∀ a, a / 32 = b / 32 → spanOf h a = spanOf h b := fun a e => by unfold spanOf; rw [e]
  have hsp : ∀ a, 0 ≤ a → spanOf (freed h b) a = if a / 32 = b / 32 then ((spanOf h b).1, (spanOf h b).2.1, xr (spanOf h b).2.2.1 (blkI h b).toNat, ()) else spanOf h a := fun a ha => spanOf_set ip _ _ _ ha
  have hlen' : (freed h b).2.1.length = h.2.1.length := List.length_set
  have hcl : ∀ a, 0 ≤ a → (spanOf (freed h b) a).2.1 = (spanOf h a).2.1 := fun a ha => by
    rw [hsp a ha]
    by_cases e : a / 32 = b / 32
    · rw [if_pos e, hel a e]
    · rw [if_neg e]
  have hnn : ∀ a ∈ l, 0 ≤ a := fun a ha => (freeP_iff.1 ((v.mem a).1 ha)).1
  have hmem : ∀ a, a ∈ (l.filter fun a => decide (¬ a = b)) ↔ freeP (freed h b) a := fun a => by
    rw [List.mem_filter, decide_eq_true_iff, v.mem, freeP_iff, freeP_iff, hlen']
    constructor
    · rintro ⟨⟨a0, a1, af⟩, hne⟩
      refine ⟨a0, a1, ?_⟩
      rw [hsp a a0]
      by_cases e : a / 32 = b / 32
      · rw [hel a e] at af
        rw [if_pos e]; exact (freeS_free h0 c0 c3 bf e).2 ⟨af, hne⟩
      · rw [if_neg e]; exact af
    · rintro ⟨a0, a1, af⟩
      rw [hsp a a0] at af
      by_cases e : a / 32 = b / 32
      · rw [if_pos e] at af
        obtain ⟨af, hne⟩ := (freeS_free h0 c0 c3 bf e).1 af
        exact ⟨⟨a0, a1, by rw [hel a e]; exact af⟩, hne⟩
      · rw [if_neg e] at af
        exact ⟨⟨a0, a1, af⟩, fun h => e (by rw [h])⟩
  have hword : ∀ j : Nat, (freed h b).1.getD j 0 = if b ≤ j ∧ (j : Int) < b + szOf h b then 0 else h.1.getD j 0 := fun j => by
    show (zer _ _ _).getD j 0 = _
    rw [zer_getD (by omega)]
    unfold szOf
    by_cases c : b ≤ j ∧ (j : Int) < b + cw (spanOf h b).2.1
    · rw [if_pos c, if_pos (by omega)]
    · rw [if_neg c, if_neg (by omega)]
  have hmap : (l.filter fun a => decide (¬ a = b)).map (szOf (freed h b)) = (l.filter fun a => decide (¬ a = b)).map (szOf h) := map_congr_mem fun a ha => by
    unfold szOf; rw [hcl a (hnn a (List.mem_filter.1 ha).1)]
  refine ⟨⟨hfp, hlen'.trans v.len, v.nd.filter _, hmem, fun a ha => ?_, fun j hj => ?_, ?_⟩, hmap⟩
  · rw [List.mem_filter, decide_eq_true_iff] at ha
    obtain ⟨ha, hne⟩ := ha
    obtain ⟨c, m, m0, m1, e⟩ := v.hdr a ha
    have a0 := hnn a ha
    refine ⟨c, m, m0, ?_, ?_⟩
    · unfold szOf; rw [hcl a a0]; exact m1
    · rw [hword, hcl a a0, if_neg, e]
      rintro ⟨k1, k2⟩
      have := blk_apart v.hp hf ((v.mem a).1 ha) (by omega)
      omega
  · rw [hword] at hj
    split at hj
    · exact absurd rfl hj
    · rename_i hc
      have hm := v.nz j hj
      rw [List.mem_filter, decide_eq_true_iff]
      refine ⟨hm, fun e => hc ?_⟩
      unfold szOf; omega
  · rw [hmap, sumI_filter l v.nd ((v.mem b).2 hf), ← v.sum]
    have := usedN_set ip ((spanOf h b).1, (spanOf h b).2.1, xr (spanOf h b).2.2.1 (blkI h b).toNat, ()) (zer h.1 b.toNat (cw (spanOf h b).2.1).toNat)
    rw [es, (us1_xr h0 bf.1 (show (blkI h b).toNat < 32 by have := hf.2.2.2.1; have := cb_le (spanOf h b).2.1; omega)).2 hf.2.2.2.2] at this
    rw [show freed h b = (zer h.1 b.toNat (cw (spanOf h b).2.1).toNat, h.2.1.set (b / 32).toNat ((spanOf h b).1, (spanOf h b).2.1, xr (spanOf h b).2.2.1 (blkI h b).toNat, ()), h.2.2) from rfl, this]
    unfold szOf; omega
end Go.Proofs.YtebdioogklmeaaaDoor.Den
