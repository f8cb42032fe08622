/- Pure laws. -/
import Derived.Test.YtkjpakaidjpjgaaGreatDoorDenP2
import Derived.Test.YtkjpakaidjpjgaaGreatDoorDenP3
import Derived.Test.YtkjpakaidjpjgaaGreatDoorDenP1
/- Pure laws: what is used; an object laid and freed. -/
namespace Go.Proofs.YtkjpakaidjpjgaaGreatDoor.Den
open Go
set_option linter.unusedVariables false
set_option linter.unusedSimpArgs false
set_option maxRecDepth 100000
theorem right_free {s : Span} (hr : rightB s = true) (hs : s.1 = 0) : s = sz := by
 simp only [rightB, if_pos hs, decide_eq_true_eq] at hr
 exact Prod.ext hs (Prod.ext hr.1 (Prod.ext hr.2 rfl))
end Go.Proofs.YtkjpakaidjpjgaaGreatDoor.Den
/- Pure laws: a block taken. -/
namespace Go.Proofs.YtkjpakaidjpjgaaGreatDoor.Den
open Go
set_option linter.unusedVariables false
set_option linter.unusedSimpArgs false
set_option maxRecDepth 100000
end Go.Proofs.YtkjpakaidjpjgaaGreatDoor.Den
/- The pure law TakeTakes. -/
namespace Go.Proofs.YtkjpakaidjpjgaaGreatDoor.Den
open Go
set_option linter.unusedVariables false
set_option linter.unusedSimpArgs false
set_option maxRecDepth 100000
end Go.Proofs.YtkjpakaidjpjgaaGreatDoor.Den
/- Pure laws: what deeds keep of a heap and a list of its objects. -/
namespace Go.Proofs.YtkjpakaidjpjgaaGreatDoor.Den
open Go
set_option linter.unusedVariables false
set_option linter.unusedSimpArgs false
set_option maxRecDepth 100000
theorem zer_getD {ws : List Int} {a k : Nat} (h : a + k ≤ ws.length) (j : Nat) : (zer ws a k).getD j 0 = if a ≤ j ∧ j < a + k then 0 else ws.getD j 0 := by
 simp only [List.getD, zer_get h]
 split <;> rfl
end Go.Proofs.YtkjpakaidjpjgaaGreatDoor.Den
/- Pure laws: what is behind a block that was taken. -/
namespace Go.Proofs.YtkjpakaidjpjgaaGreatDoor.Den
open Go
set_option linter.unusedVariables false
set_option linter.unusedSimpArgs false
set_option maxRecDepth 100000
theorem good_span_of {s : Span} (hr : rightB s = true) (h0 : 0 ≤ s.2.2.1) : Good cSpan s := by
 have hf := rightB_free hr h0
 have h1 : -9223372036854775808 ≤ s.1 ∧ s.1 ≤ 9223372036854775807 ∧ -9223372036854775808 ≤ s.2.1 ∧ s.2.1 ≤ 9223372036854775807 := by
  by_cases hs : s.1 = 0
  ·rw [right_free hr hs]; decide
  ·have := right_use hr hs; omega
 exact ⟨⟨h1.1, h1.2.1⟩, ⟨h1.2.2.1, h1.2.2.2⟩, ⟨h0, by show s.2.2.1 ≤ 4294967295; omega⟩, trivial⟩
end Go.Proofs.YtkjpakaidjpjgaaGreatDoor.Den
/- Pure laws: worlds that the marker's turns lead to; within how many turns a cycle ends. -/
namespace Go.Proofs.YtkjpakaidjpjgaaGreatDoor.Den
open Go
set_option linter.unusedVariables false
set_option linter.unusedSimpArgs false
set_option maxRecDepth 100000
theorem hp_good {h : Heap} (q : HP h) : Good cHeap h := by
 have hn := q.f.n16
 have hl := q.f.len
 refine ⟨⟨by omega, fun w hw => ?_⟩, ⟨by omega, fun s hs => good_span_of (q.f.right s hs) (q.fr s hs)⟩, trivial, trivial⟩
 obtain ⟨a, b⟩ := q.f.word w hw
 have hh : ∀ x : Int, x < 18446744073709551616 → x ≤ 18446744073709551615 := fun x h => by omega
 exact ⟨a, hh w b⟩
theorem hp_formB {h : Heap} (q : HP h) : formB h = true := by
 unfold formB
 rw [Bool.and_eq_true, decide_eq_true_iff, List.all_eq_true]
 exact ⟨⟨q.f.n1, q.f.n16, q.f.len⟩, q.f.right⟩
theorem hp_turn {h : Heap} (q : HP h) : HP (turnS h) := ⟨q.f.turn, q.fr⟩
theorem hp_pn {h : Heap} (q : HP h) (S : Int → Bool) : HP (pn h S) := ⟨q.f.pn S, q.fr⟩
theorem right_open {s : Span} {k : Int} (hk : k = 1 ∨ k = 2) (h : rightB s = true) (e : s.1 ≠ 0) : rightB (k, s.2) = true := by
 unfold rightB at h ⊢
 rw [if_neg e] at h
 rw [if_neg (show ¬ ((k, s.2) : Span).1 = 0 from by show ¬ k = 0; omega)]
 simp only [decide_eq_true_eq] at h ⊢
 exact ⟨hk, h.2⟩
theorem hp_beg {h : Heap} (q : HP h) : HP (begS h) := by
 refine ⟨⟨?_, ?_, ?_, fun s hs => ?_, q.f.word⟩, fun s hs => ?_⟩
 ·show 1 ≤ (h.2.1.map dirtS).length
  rw [List.length_map]; exact q.f.n1
 ·show (h.2.1.map dirtS).length ≤ 16
  rw [List.length_map]; exact q.f.n16
 ·show h.1.length = 32 * (h.2.1.map dirtS).length
  rw [List.length_map]; exact q.f.len
 ·obtain ⟨r, hr, rfl⟩ := List.mem_map.1 hs
  have h1 := q.f.right r hr
  unfold dirtS
  split
  ·rename_i e
   exact right_open (.inr rfl) h1 (by rw [e]; decide)
  ·exact h1
 ·obtain ⟨r, hr, rfl⟩ := List.mem_map.1 hs
  have h1 := q.fr r hr
  unfold dirtS
  split <;> exact h1
theorem oneG_setSp {h : Heap} (q : HP h) {c : List (List Int)} {p : Nat} (hp : p < h.2.1.length) (hd : (h.2.1.getD p sz).1 = 2) :
  ∃ s : Span, rightB s = true ∧ 0 ≤ s.2.2.1 ∧ oneG h c p = setSp (swF h p (pgN h p)).1 (p : Int) s ∧ s.1 ≠ 2 ∧ (keptP c p → s.1 ≠ 0 ∧ s.2.1 = (h.2.1.getD p sz).2.1) := by
 obtain ⟨I, -, -⟩ := swF_ok q p (pgN h p)
 have hg : ((swF h p (pgN h p)).1.2.1.getD p sz) ∈ (swF h p (pgN h p)).1.2.1 := by
  have hl := I.sl
  rw [get_d _ _ _ (show p < (swF h p (pgN h p)).1.2.1.length by omega)]
  exact List.getElem_mem _
 obtain ⟨c1, c2⟩ := I.cl p
 unfold oneG
 split
 ·rename_i hh
  exact ⟨sz, right_sz, by show (0 : Int) ≤ 0; omega, by rw [← I.c]; rfl, by decide, fun hk => absurd hk hh.2⟩
 ·refine ⟨(1, ((swF h p (pgN h p)).1.2.1.getD p sz).2), right_open (.inl rfl) (I.hp.f.right _ hg) (by rw [c1, hd]; decide), by have := I.hp.fr _ hg; exact this, by rw [← I.c]; rfl, by show (1 : Int) ≠ 2; decide, fun _ => ⟨by show (1 : Int) ≠ 0; decide, c2⟩⟩
theorem hp_one {h : Heap} (q : HP h) {c : List (List Int)} {p : Nat} (hp : p < h.2.1.length) (hd : (h.2.1.getD p sz).1 = 2) : HP (oneG h c p) := by
 obtain ⟨s, h1, h2, e, -, -⟩ := oneG_setSp (c := c) q hp hd
 rw [e]
 exact hp_setSp (swF_ok q p (pgN h p)).1.hp _ h1 h2
theorem hp_swp {h : Heap} (q : HP h) (c : List (List Int)) : HP (swpH h c) := by
 unfold swpH
 split
 ·exact q
 ·rename_i p e
  obtain ⟨h1, h2, -⟩ := fstD_some e
  exact hp_one q h1 h2
theorem rightP_to {h g : Heap} {c : List (List Int)} (r : RightP h c) (hs : ∀ t, t < 4 * c.length → lin c t ≠ -1 → valid h (lin c t) (t % 4) → valid g (lin c t) (t % 4)) : RightP g c := by
 refine ⟨fun t ht => ?_, r.one⟩
 by_cases e : lin c t = -1
 ·exact .inl e
 ·exact .inr (hs t ht e ((r.v t ht).resolve_left e))
theorem rightP_beg {h : Heap} {c : List (List Int)} (r : RightP h c) : RightP (begS h) c := by
 refine rightP_to r fun t ht hn v => ?_
 obtain ⟨i, v1, v2⟩ := v
 have i0 := i.1
 have i1 := i.2
 have hsp : spanAt (begS h) (lin c t) = dirtS (spanAt h (lin c t)) := by
  show (h.2.1.map dirtS).getD _ sz = dirtS (h.2.1.getD _ sz)
  rw [get_d _ _ _ (by rw [List.length_map]; omega), get_d _ _ _ (show (lin c t).toNat < h.2.1.length by omega), List.getElem_map]
 refine ⟨⟨i0, by show (lin c t) < ((h.2.1.map dirtS).length : Int); rw [List.length_map]; exact i1⟩, ?_, ?_⟩
 ·rw [hsp]
  unfold dirtS
  split
  ·show (2 : Int) ≠ 0
   decide
  ·exact v1
 ·rw [hsp]
  unfold dirtS
  split <;> exact v2
theorem rightP_swp {h : Heap} (q : HP h) {c : List (List Int)} (h4 : Row4 c) (r : RightP h c) : RightP (swpH h c) c := by
 unfold swpH
 split
 ·exact r
 rename_i p e
 obtain ⟨hp, hd, -⟩ := fstD_some e
 obtain ⟨s, h1, h2, e2, -, hk⟩ := oneG_setSp (c := c) q hp hd
 obtain ⟨I, -, -⟩ := swF_ok q p (pgN h p)
 have hsl := I.sl
 rw [e2]
 refine rightP_to r fun t ht hn v => ?_
 obtain ⟨i, v1, v2⟩ := v
 have i0 := i.1
 have i1 := i.2
 have hin : inP (setSp (swF h p (pgN h p)).1 (p : Int) s) (lin c t) := ⟨i0, by show (lin c t) < ((List.set _ _ _).length : Int); rw [List.length_set]; omega⟩
 have hsp : spanAt (setSp (swF h p (pgN h p)).1 (p : Int) s) (lin c t) = if p = (lin c t).toNat then s else (swF h p (pgN h p)).1.2.1.getD (lin c t).toNat sz := by
  show (List.set _ _ _).getD _ sz = _
  rw [getD_set_i, Int.toNat_natCast]
  by_cases e3 : p = (lin c t).toNat
  ·rw [if_pos ⟨e3, by omega⟩, if_pos e3]
  ·rw [if_neg (fun hh => e3 hh.1), if_neg e3]
 refine ⟨hin, ?_, ?_⟩
 ·rw [hsp]
  by_cases e3 : p = (lin c t).toNat
  ·rw [if_pos e3]
   exact (hk ((kept_lin h4 _).2 ⟨t, ht, by omega⟩)).1
  ·rw [if_neg e3, (I.cl _).1]
   exact v1
 ·rw [hsp]
  by_cases e3 : p = (lin c t).toNat
  ·rw [if_pos e3, (hk ((kept_lin h4 _).2 ⟨t, ht, by omega⟩)).2, e3]
   exact v2
  ·rw [if_neg e3, (I.cl _).2]
   exact v2
theorem cnt_map {l : List Span} {k : List Span} (hl : l.length = k.length) (h : ∀ i, (l.getD i sz).1 = (k.getD i sz).1) : (l.countP fun s => decide (s.1 = 2)) = k.countP fun s => decide (s.1 = 2) := by
 have e : l.map (fun s => s.1) = k.map (fun s => s.1) := by
  refine List.ext_getElem (by rw [List.length_map, List.length_map, hl]) fun i h1 h2 => ?_
  rw [List.length_map] at h1 h2
  have := h i
  rw [get_d _ _ _ h1, get_d _ _ _ h2] at this
  rw [List.getElem_map, List.getElem_map]
  exact this
 have f : ∀ l : List Span, (l.countP fun s => decide (s.1 = 2)) = (l.map (fun s => s.1)).countP fun n => decide (n = 2) := fun l => by rw [List.countP_map]; rfl
 rw [f, f, e]
theorem cnt_set : ∀ (l : List Span) (i : Nat) (s : Span), i < l.length → (l.getD i sz).1 = 2 → s.1 ≠ 2 → ((l.set i s).countP fun s => decide (s.1 = 2)) + 1 = l.countP fun s => decide (s.1 = 2)
 | [], _, _, h, _, _ => absurd h (by simp)
 | a :: l, 0, s, _, h1, h2 => by
  have h1 : a.1 = 2 := h1
  rw [List.set_cons_zero, List.countP_cons, List.countP_cons, if_neg (by simpa using h2), if_pos (by simpa using h1)]
 | a :: l, i + 1, s, h, h1, h2 => by
  have := cnt_set l i s (by simpa using h) h1 h2
  rw [List.set_cons_succ, List.countP_cons, List.countP_cons]
  omega
theorem dcnt_swp {h : Heap} (q : HP h) (c : List (List Int)) (hn : dcnt (swpH h c) ≠ 0) : dcnt (swpH h c) + 1 ≤ dcnt h := by
 cases e : fstD h with
 | none =>
  unfold swpH at hn
  rw [e] at hn
  exact absurd (dcnt_zero (fstD_none e)) hn
 | some p =>
  obtain ⟨hp, hd, -⟩ := fstD_some e
  obtain ⟨s, -, -, e2, hs, -⟩ := oneG_setSp (c := c) q hp hd
  obtain ⟨I, -, -⟩ := swF_ok q p (pgN h p)
  have hsl := I.sl
  unfold swpH
  rw [e]
  show dcnt (oneG h c p) + 1 ≤ dcnt h
  rw [e2]
  unfold dcnt setSp
  have h1 := cnt_set (swF h p (pgN h p)).1.2.1 p s (by omega) (by rw [(I.cl p).1]; exact hd) hs
  have h2 := cnt_map hsl (fun i => (I.cl i).1)
  simp only [Int.toNat_natCast]
  omega
theorem dcnt_le {h : Heap} (q : HP h) : dcnt h ≤ 16 := by
 have := q.f.n16
 have : dcnt h ≤ h.2.1.length := List.countP_le_length
 omega
theorem ok_even {h : Heap} (f : FormP h) {n : Nat} (e : okA h n = true) : n % 2 = 0 := by
 obtain ⟨p, i, hp, hs, hi, ha, -⟩ := fnd_blkX f (og_ok e).1
 obtain ⟨w, b, hw, hb, ec, b16, hB⟩ := blk_of f hp
 have B := hB i (by omega)
 have h1 := B.a_
 have h2 : n = 32 * p + i * w := by omega
 rcases B.wb with ⟨rfl, -⟩ | ⟨rfl, -⟩ | ⟨rfl, -⟩ | ⟨rfl, -⟩ <;> omega
theorem lstN_half {h : Heap} (f : FormP h) : ∀ n, (lstN h n).length ≤ (n + 1) / 2
 | 0 => by simp [lstN]
 | n + 1 => by
  have := lstN_half f n
  rw [lstN_succ]
  split
  ·rename_i e
   have := ok_even f e
   rw [List.length_append, List.length_singleton]
   omega
  ·omega
theorem lst_half {h : Heap} (f : FormP h) : (lst h).length ≤ h.1.length / 2 := by
 have h1 := lstN_half f h.1.length
 have h2 := f.len
 unfold lst
 omega
end Go.Proofs.YtkjpakaidjpjgaaGreatDoor.Den
/- Pure laws: the marker's turns end a cycle. -/
namespace Go.Proofs.YtkjpakaidjpjgaaGreatDoor.Den
open Go
set_option linter.unusedVariables false
set_option linter.unusedSimpArgs false
set_option maxRecDepth 100000
structure IW (w : WrldT) : Prop where
 p : HP w.2.1
 ms : MsP w.2.2.1
 hv : ∀ v : Val, v ∈ heldL w.2.2.1 → -9223372036854775808 ≤ v.2.1 ∧ v.2.1 < 9223372036854775808
 h4 : Row4 (cachesW w.2.2.1)
 hc : mayP w.1
 sp : (w.2.1.2.1.length : Int) = w.1.1
 ml : (w.2.2.1.length : Int) = w.1.2.1
 st : w.2.2.1.all (stkB w) = true
 rt : RightP w.2.1 (cachesW w.2.2.1)
 ph : 0 ≤ w.2.2.2.2.1 ∧ w.2.2.2.2.1 ≤ 2
 mkw : w.2.2.2.2.1 = 1 → MkP w.2.1 w.2.2.2.1 ∧ (w.2.2.2.1.2.1.length : Int) = w.2.2.1.length
 mr : MrP w.2.2.2.1
theorem IW.gw {w : WrldT} (I : IW w) : GW w := ⟨hp_good I.p, I.p.f.n16, I.ms, I.mr⟩
theorem IW.form {w : WrldT} (I : IW w) : formW w = true := by
 unfold formW
 simp only [Bool.and_eq_true, decide_eq_true_eq]
 refine ⟨I.hc, hp_formB I.p, I.sp, I.ml, I.ph, I.st, I.rt, ?_⟩
 unfold mkB
 by_cases e : w.2.2.2.2.1 = 1
 ·obtain ⟨m, l⟩ := I.mkw e
  rw [if_pos e, m.rtB, decide_eq_true l]
  rfl
 ·rw [if_neg e]
theorem IW.of {w : WrldT} (F : WF w) (hf : formW w = true) : IW w := by
 unfold formW at hf
 simp only [Bool.and_eq_true, decide_eq_true_eq] at hf
 refine ⟨F.p, F.q.g.ms, F.q.hv, F.h4, F.hc, hf.2.2.1, hf.2.2.2.1, hf.2.2.2.2.2.1, hf.2.2.2.2.2.2.1, F.ph, fun e => ⟨F.hm e, ?_⟩, F.q.g.mr⟩
 have h2 := hf.2.2.2.2.2.2.2
 unfold mkB at h2
 rw [if_pos e] at h2
 simp only [Bool.and_eq_true, decide_eq_true_eq] at h2
 exact h2.2
theorem MkP.mr {h : Heap} {m : MarkT} (f : FormP h) (p : MkP h m) : MrP m := by
 refine ⟨by have := p.g.len; have := p.g.r16; omega, by have := p.bl; omega, fun g hg => by have := (p.b g hg).len; have := (p.b g hg).r16; omega, ?_⟩
 rcases p.ob with ⟨e, -⟩ | e
 ·rw [e]; decide
 ·have hb := (og_ok (fe_ok e).1).1
  have h1 := fndB_rng hb
  have h2 := fnd_room f hb
  have h3 := f.n16
  have h4 := f.len
  omega
theorem hand_bs (h : Heap) (m : MarkT) (a : Int) : (hand h m a).2.1 = m.2.1 := by
 unfold hand
 split <;> rfl
theorem Stp.blen {h h' : Heap} {m m' : MarkT} (s : Stp h m h' m') : m'.2.1.length = m.2.1.length := by
 cases s with
 | fld _ _ _ => rfl
 | pop => rw [hand_bs]
 | row => rw [hand_bs]; simp
 | root _ => rfl
 | cur _ _ _ _ => rw [hand_bs]
 | noc _ _ => rfl
 | ovr => rfl
theorem mk_begin {h : Heap} (f : FormP h) {ms : List MutT} (M : MsP ms) (hv : ∀ v : Val, v ∈ heldL ms → -9223372036854775808 ≤ v.2.1 ∧ v.2.1 < 9223372036854775808) {g b : Int} (g0 : 0 ≤ g) (g1 : g ≤ 16) (b0 : 0 ≤ b) (b1 : b ≤ 16) :
  MkP (turnS h) (markM g b ms.length (heldL ms ++ pendL h ms)) := by
 have hl := heldL_len M.st
 have hp := pendL_len h ms
 have hm := M.len
 refine ⟨⟨g0, g1, g0⟩, fun a ha => (by cases ha), fun x hx => ?_, fun x hx a ha => ?_, ?_, ?_, fun v hv2 => ?_, ?_, .inl ⟨rfl, rfl⟩⟩
 ·have e : x = (b, [], ()) := List.eq_of_mem_replicate hx
  rw [e]
  exact ⟨b0, b1, b0⟩
 ·have e : x = (b, [], ()) := List.eq_of_mem_replicate hx
  rw [e] at ha
  cases ha
 ·show (List.replicate _ _).length ≤ 10
  rw [List.length_replicate]
  exact hm
 ·show (heldL ms ++ pendL h ms).length ≤ 1000
  rw [List.length_append]
  omega
 ·rcases List.mem_append.1 (show v ∈ heldL ms ++ pendL h ms from hv2) with h1 | h1
  ·exact hv v h1
  ·unfold pendL at h1
   obtain ⟨m, -, h2⟩ := List.mem_flatMap.1 h1
   unfold pend1 at h2
   split at h2
   ·rw [List.mem_singleton.1 h2]
    exact fldV_rng f _ _
   ·cases h2
 ·show (-1 : Int) ≤ -1 ∧ (-1 : Int) ≤ _
  omega
theorem nit_begin (g b : Int) (n : Nat) (vs : List Val) : nit (markM g b n vs) = 0 := by
 simp [nit, markM]
def cycN (k : Nat) : Nat := (k + 3) * (17 * k + 8) + 300
def wantN (w : WrldT) : Nat := if w.2.2.2.2.2.1 = true then cycN (w.2.1.1.length / 2) else 0
def Pot (w : WrldT) (n : Nat) : Prop :=
 (w.2.2.2.2.1 = 0 ∧ wantN w ≤ n) ∨ (w.2.2.2.2.1 = 1 ∧ ∃ h0 S, FormP h0 ∧ w.2.1 = pn h0 S ∧ pot h0 w.2.1 w.2.2.2.1 + 20 + wantN w ≤ n) ∨ (w.2.2.2.2.1 = 2 ∧ dcnt w.2.1 + 1 + wantN w ≤ n)
theorem want_eq {w a : WrldT} (h1 : a.2.2.2.2.2.1 = w.2.2.2.2.2.1) (h2 : a.2.1.1.length = w.2.1.1.length) : wantN a = wantN w := by
 unfold wantN
 rw [h1, h2]
theorem IW.turn {w : WrldT} (I : IW w) {n : Nat} (P : Pot w (n + 1)) (hne : ¬ (w.2.2.2.2.1 = 0 ∧ w.2.2.2.2.2.1 = false)) :
  ∃ (a : WrldT) (x : Int), mkrW w = (a, x, ()) ∧ x ≠ 0 ∧ IW a ∧ Pot a n ∧ a.2.2.2.2.2.2.2.1.length ≤ w.2.2.2.2.2.2.2.1.length + 1 := by
 have f := I.p.f
 unfold mkrW
 rcases P with ⟨e, hP⟩ | ⟨e, h0, S, f0, eh, hP⟩ | ⟨e, hP⟩
 ·have hw : w.2.2.2.2.2.1 = true := by
   cases hw : w.2.2.2.2.2.1 with
   | false => exact absurd ⟨e, hw⟩ hne
   | true => rfl
  rw [if_pos e, if_pos hw]
  obtain ⟨c1, c2, c3, c4⟩ := I.hc.2.2.2.2.2.2
  have mb := mk_begin f I.ms I.hv (g := w.1.2.2.2.1) (b := w.1.2.2.2.2.1) c1 c2 c3 (by omega)
  refine ⟨_, _, rfl, by decide, ⟨hp_turn I.p, I.ms, I.hv, I.h4, I.hc, I.sp, I.ml, I.st, rightP_to I.rt fun t _ _ v => v, by show (0 : Int) ≤ 1 ∧ (1 : Int) ≤ 2; decide, fun _ => ⟨mb, ?_⟩, mb.mr f.turn⟩, .inr (.inl ⟨rfl, turnS w.2.1, fun _ => false, f.turn, pn_none.symm, ?_⟩), Nat.le_succ _⟩
  ·show ((List.replicate _ _).length : Int) = _
   rw [List.length_replicate]
  ·have h1 := pot_le f.turn (S := fun _ => false) pn_none.symm mb
   have h2 := lst_half f.turn
   have h3 : (turnS w.2.1).1.length = w.2.1.1.length := rfl
   rw [h3] at h2
   have hl := heldL_len I.ms.st
   have hp := pendL_len w.2.1 w.2.2.1
   have hm := I.ms.len
   unfold wantN cycN at hP
   rw [if_pos hw] at hP
   unfold bnd at h1
   rw [nit_begin] at h1
   have h4 : ((lst (turnS w.2.1)).length + 3) * (17 * (lst (turnS w.2.1)).length + 8) ≤ (w.2.1.1.length / 2 + 3) * (17 * (w.2.1.1.length / 2) + 8) := Nat.mul_le_mul (by omega) (by omega)
   have h5 : (markM w.1.2.2.2.1 w.1.2.2.2.2.1 w.2.2.1.length (heldL w.2.2.1 ++ pendL w.2.1 w.2.2.1)).2.2.1.length = (heldL w.2.2.1).length + (pendL w.2.1 w.2.2.1).length := List.length_append
   show pot (turnS w.2.1) (turnS w.2.1) (markM w.1.2.2.2.1 w.1.2.2.2.2.1 w.2.2.1.length (heldL w.2.2.1 ++ pendL w.2.1 w.2.2.1)) + 20 + (if false = true then _ else 0) ≤ n
   rw [if_neg (by decide)]
   omega
 ·rw [if_neg (by omega), if_pos e]
  obtain ⟨mp, ml⟩ := I.mkw e
  rcases stp_cases f mp with ⟨es, -⟩ | ⟨h', m', es, s⟩
  ·rw [es]
   have hb := hp_beg I.p
   have hd := dcnt_le hb
   refine ⟨_, _, if_pos rfl, by decide, ⟨hb, I.ms, I.hv, I.h4, I.hc, ?_, I.ml, I.st, rightP_beg I.rt, by show (0 : Int) ≤ 2 ∧ (2 : Int) ≤ 2; decide, fun h => absurd h (by show ¬ (2 : Int) = 1; decide), ⟨by show (0 : Nat) ≤ _; omega, by show (0 : Nat) ≤ _; omega, fun g hg => (by cases hg), by show (-9223372036854775808 : Int) ≤ 0 ∧ (0 : Int) < 9223372036854775808; decide⟩⟩, .inr (.inr ⟨rfl, ?_⟩), ?_⟩
   ·show ((w.2.1.2.1.map dirtS).length : Int) = _
    rw [List.length_map]
    exact I.sp
   ·show dcnt (begS w.2.1) + 1 + wantN w ≤ n
    omega
   ·show (w.2.2.2.2.2.2.2.1 ++ [tellW w]).length ≤ _
    rw [List.length_append, List.length_singleton]
    omega
  ·rw [es]
   obtain ⟨T, eT⟩ := s.paint
   have hp := s.pot f0 eh
   have mk := s.mk f mp
   have bl := s.blen
   subst eT
   have hb := hp_pn I.p T
   refine ⟨_, _, if_neg (by simp), by decide, ⟨hb, I.ms, I.hv, I.h4, I.hc, I.sp, I.ml, I.st, rightP_to I.rt fun t _ _ v => v, I.ph, fun _ => ⟨mk, by rw [← ml, ← bl]⟩, mk.mr hb.f⟩, .inr (.inl ⟨e, h0, _, f0, by show pn w.2.1 T = _; rw [eh, pn_pn f0], ?_⟩), Nat.le_succ _⟩
   have hw := want_eq (w := w) (a := (w.1, pn w.2.1 T, w.2.2.1, m', w.2.2.2.2)) rfl (pn_len _ _)
   show pot h0 (pn w.2.1 T) m' + 20 + wantN (w.1, pn w.2.1 T, w.2.2.1, m', w.2.2.2.2) ≤ n
   omega
 ·rw [if_neg (by omega), if_neg (by omega), if_pos e]
  obtain ⟨l1, l2⟩ := swpH_len I.p (cachesW w.2.2.1)
  have hb := hp_swp I.p (cachesW w.2.2.1)
  have rt := rightP_swp I.p I.h4 I.rt
  unfold swpW
  rw [if_pos e]
  by_cases hd : dcnt (swpH w.2.1 (cachesW w.2.2.1)) = 0
  ·rw [if_pos hd]
   refine ⟨_, _, rfl, by decide, ⟨hb, I.ms, I.hv, I.h4, I.hc, by rw [l1]; exact I.sp, I.ml, I.st, rt, by show (0 : Int) ≤ 0 ∧ (0 : Int) ≤ 2; decide, fun h => absurd h (by show ¬ (0 : Int) = 1; decide), I.mr⟩, .inl ⟨rfl, ?_⟩, Nat.le_succ _⟩
   have hw := want_eq (w := w) (a := (w.1, swpH w.2.1 (cachesW w.2.2.1), w.2.2.1, w.2.2.2.1, 0, w.2.2.2.2.2)) rfl l2
   omega
  ·rw [if_neg hd]
   have h3 := dcnt_swp I.p _ hd
   refine ⟨_, _, rfl, by decide, ⟨hb, I.ms, I.hv, I.h4, I.hc, by rw [l1]; exact I.sp, I.ml, I.st, rt, I.ph, fun h => absurd (show w.2.2.2.2.1 = 1 from h) (by omega), I.mr⟩, .inr (.inr ⟨e, ?_⟩), Nat.le_succ _⟩
   have hw := want_eq (w := w) (a := (w.1, swpH w.2.1 (cachesW w.2.2.1), w.2.2)) rfl l2
   show dcnt (swpH w.2.1 (cachesW w.2.2.1)) + 1 + wantN (w.1, swpH w.2.1 (cachesW w.2.2.1), w.2.2) ≤ n
   omega
end Go.Proofs.YtkjpakaidjpjgaaGreatDoor.Den
/- Pure laws: of a filled heap what is used is the sum of its objects' words. -/
namespace Go.Proofs.YtkjpakaidjpjgaaGreatDoor.Den
open Go
set_option linter.unusedVariables false
set_option linter.unusedSimpArgs false
set_option maxRecDepth 100000
def FilP (h : Heap) : Prop := ∀ p i : Nat, p < h.2.1.length → stP h p ≠ 0 → i < pgN h p → okA h (blA h p i) = !freB h p i ∧ (okA h (blA h p i) = true → (og h (blA h p i)).1.2.2.1 = (h.2.1.getD p sz).2.1)
theorem okA_zero0 {h : Heap} {a : Int} (hz0 : h.1.getD a.toNat 0 = 0) : okA h a = false := by
 unfold okA og
 rw [hz0, show hok 0 = false by decide]
 simp only [Bool.and_false, Bool.false_and, Bool.false_eq_true, if_false]
theorem filP_of {h : Heap} (f : FormP h) (hf : filledB h = true) : FilP h := by
 intro p i hp hs hi
 unfold filledB at hf
 rw [Bool.and_eq_true] at hf
 have hq : filB h p i = true := pgB_all.1 (List.all_eq_true.1 hf.2 p (List.mem_range.2 hp)) hs i hi
 obtain ⟨w, b, hw, hb, ec, b16, hB⟩ := blk_of f hp
 have B := hB i (by omega)
 have h1 := B.a_
 have h2 := B.in_
 have h3 := B.two
 have h4 := f.len
 unfold filB at hq
 by_cases e : freB h p i = true
 ·rw [if_pos e] at hq
  have z := clr_word (i := 0) (by omega) hq (by omega)
  have hn : okA h (blA h p i) = false := okA_zero0 (by rw [Int.toNat_natCast]; exact z)
  rw [hn, e]
  exact ⟨rfl, fun h => by cases h⟩
 ·rw [if_neg e] at hq
  simp only [Bool.and_eq_true, decide_eq_true_eq] at hq
  rw [hq.1]
  exact ⟨by simp [e], fun _ => hq.2⟩
def oN (h : Heap) : Nat → Int
 | 0 => 0
 | n + 1 => oN h n + if okA h n = true then cw (og h n).1.2.2.1 else 0
theorem wsum_lstN (h : Heap) : ∀ n, wsum h (lstN h n) = oN h n
 | 0 => rfl
 | n + 1 => by
  rw [lstN_succ]
  unfold oN
  rw [← wsum_lstN h n]
  by_cases e : okA h n = true
  ·rw [if_pos e, if_pos e]
   unfold wsum
   simp
  ·rw [if_neg e, if_neg e]
   omega
theorem oN_gap (h : Heap) (n : Nat) : ∀ k, (∀ j, j < k → okA h ((n + j : Nat) : Int) = false) → oN h (n + k) = oN h n
 | 0, _ => rfl
 | k + 1, hk => by
  have h1 := oN_gap h n k fun j hj => hk j (by omega)
  show oN h (n + k) + (if okA h ((n + k : Nat) : Int) = true then _ else 0) = _
  rw [h1, if_neg (by rw [hk k (by omega)]; simp)]
  omega
theorem no_mid {h : Heap} (f : FormP h) {p i w b k : Nat} (hp : p < h.2.1.length) (B : Blk h p i w b) (k0 : 0 < k) (k1 : k < w) : okA h ((32 * p + i * w + k : Nat) : Int) = false := by
 cases e : okA h ((32 * p + i * w + k : Nat) : Int) with
 | false => rfl
 | true =>
  have hb := of_decide_eq_true (og_ok e).1
  have h2 := B.in_
  have hs : spanOf h ((32 * p + i * w + k : Nat) : Int) = h.2.1.getD p sz := by
   unfold spanOf
   rw [show (((32 * p + i * w + k : Nat) : Int) / 32).toNat = p by omega]
  have hm := hb.2.2.2
  rw [hs, B.cw_] at hm
  rcases B.wb with ⟨rfl, -⟩ | ⟨rfl, -⟩ | ⟨rfl, -⟩ | ⟨rfl, -⟩ <;> omega
theorem oN_blocks {h : Heap} (q : HP h) (F : FilP h) {p w b : Nat} (hp : p < h.2.1.length) (hs : stP h p ≠ 0) (hb : pgN h p = b) (hB : ∀ i, i < b → Blk h p i w b) :
  ∀ i, i ≤ b → oN h (32 * p + i * w) = oN h (32 * p) + ((i : Int) - (pcn i (h.2.1.getD p sz).2.2.1.toNat : Int)) * (w : Int)
 | 0, _ => by simp [pcn]
 | i + 1, hi => by
  have B := hB i (by omega)
  have h1 := oN_blocks q F hp hs hb hB i (by omega)
  have h2 := B.in_
  have h3 := B.two
  have ha := B.a_
  have e0 : (i + 1) * w = i * w + w := Nat.succ_mul i w
  have e : 32 * p + (i + 1) * w = (32 * p + i * w + 1) + (w - 1) := by
   rw [e0]
   generalize i * w = y
   omega
  rw [e, oN_gap h _ (w - 1) fun j hj => by
   have := no_mid q.f hp B (k := j + 1) (by omega) (by omega)
   rw [show 32 * p + i * w + 1 + j = 32 * p + i * w + (j + 1) by omega]
   exact this]
  show oN h (32 * p + i * w) + _ = _
  obtain ⟨f1, f2⟩ := F p i hp hs (by omega)
  rw [ha] at f1 f2
  have hm : (h.2.1.getD p sz) ∈ h.2.1 := by rw [get_d _ _ _ hp]; exact List.getElem_mem _
  have h0 := q.fr _ hm
  have hbit : freB h p i = bit (((h.2.1.getD p sz).2.2.1.toNat : Nat) : Int) i := by
   unfold freB
   rw [Int.toNat_of_nonneg h0]
  have hpc := pcn_bit (h.2.1.getD p sz).2.2.1.toNat i
  rw [← hbit] at hpc
  rw [h1, hpc]
  generalize pcn i (h.2.1.getD p sz).2.2.1.toNat = r
  cases ef : freB h p i with
  | true =>
   rw [ef] at f1
   rw [if_neg (by rw [f1]; simp), cond_true, show (((i + 1 : Nat) : Int) - ((r + 1 : Nat) : Int)) = (i : Int) - (r : Int) by omega]
   omega
  | false =>
   rw [ef] at f1
   have hc : cw (og h ((32 * p + i * w : Nat) : Int)).1.2.2.1 = (w : Int) := by rw [f2 (by rw [f1]; rfl), B.cw_]
   rw [if_pos (by rw [f1]; rfl), hc, cond_false, show (((i + 1 : Nat) : Int) - ((r + 0 : Nat) : Int)) = ((i : Int) - (r : Int)) + 1 by omega, Int.add_mul, Int.one_mul]
   omega
theorem oN_page {h : Heap} (q : HP h) (F : FilP h) {p : Nat} (hp : p < h.2.1.length) : oN h (32 * (p + 1)) = oN h (32 * p) + us1 (h.2.1.getD p sz) := by
 have hm : (h.2.1.getD p sz) ∈ h.2.1 := by rw [get_d _ _ _ hp]; exact List.getElem_mem _
 have h0 := q.fr _ hm
 have hR := q.f.right _ hm
 obtain ⟨w, b, hw, hb, ec, b16, hB⟩ := blk_of q.f hp
 by_cases hs : stP h p = 0
 ·have hs2 : (h.2.1.getD p sz).1 = 0 := hs
  unfold us1
  rw [if_pos hs2, show 32 * (p + 1) = 32 * p + 32 by omega, oN_gap h _ 32 fun j hj => by
   cases e : okA h ((32 * p + j : Nat) : Int) with
   | false => rfl
   | true =>
    have hd := of_decide_eq_true (og_ok e).1
    have hsp : spanOf h ((32 * p + j : Nat) : Int) = h.2.1.getD p sz := by
     unfold spanOf
     rw [show (((32 * p + j : Nat) : Int) / 32).toNat = p by omega]
    rw [hsp] at hd
    exact absurd hs2 hd.2.2.1]
  omega
 ·obtain ⟨w', b', e1, e2, e3, e4⟩ := pg_class q.f hp
  have hww : w' = w := by unfold pgW at hw; rw [e1] at hw; omega
  have hbb : b' = b := by rw [e2] at ec; omega
  subst hww hbb
  have hbw : b' * w' = 32 := by rcases e3 with ⟨rfl, rfl⟩ | ⟨rfl, rfl⟩ | ⟨rfl, rfl⟩ | ⟨rfl, rfl⟩ <;> rfl
  have h1 := oN_blocks q F hp hs hb hB b' (Nat.le_refl _)
  rw [hbw] at h1
  have hlt : (h.2.1.getD p sz).2.2.1.toNat < 2 ^ b' := by
   have hu := (right_use hR hs).2.2.2
   rw [ec, Int.toNat_natCast] at hu
   have : ((h.2.1.getD p sz).2.2.1.toNat : Int) < ((2 ^ b' : Nat) : Int) := by
    rw [Int.toNat_of_nonneg h0, Int.natCast_pow]
    exact hu
   exact Int.ofNat_lt.1 this
  unfold us1
  rw [if_neg (show ¬ (h.2.1.getD p sz).1 = 0 from hs), ec, e1, pcn_top (by omega) hlt, show 32 * (p + 1) = 32 * p + 32 by omega, h1]
theorem used_wsum {h : Heap} (q : HP h) (F : FilP h) : usN h h.2.1.length = wsum h (lst h) := by
 have key : ∀ n, n ≤ h.2.1.length → usN h n = oN h (32 * n) := by
  intro n
  induction n with
  | zero => intro _; rfl
  | succ n ih =>
   intro hn
   rw [oN_page q F (by omega), ← ih (by omega)]
   rfl
 unfold lst
 rw [wsum_lstN, key _ (Nat.le_refl _), q.f.len]
end Go.Proofs.YtkjpakaidjpjgaaGreatDoor.Den
/- Pure laws: a block freed: what is left. -/
namespace Go.Proofs.YtkjpakaidjpjgaaGreatDoor.Den
open Go
set_option linter.unusedVariables false
set_option linter.unusedSimpArgs false
set_option maxRecDepth 100000
structure BlkF (g : Heap) (p i w : Nat) : Prop where
 hp : p < g.2.1.length
 hs : stP g p ≠ 0
 hi : i < pgN g p
 w_ : pgW g p = w
 cw_ : cw (g.2.1.getD p sz).2.1 = w
 cb_ : cb (g.2.1.getD p sz).2.1 = pgN g p
 a_ : blA g p i = 32 * p + i * w
 in_ : i * w + w ≤ 32
 wb : w = 2 ∨ w = 4 ∨ w = 8 ∨ w = 16
 le : pgN g p ≤ 16
theorem blkF_of {g : Heap} (f : FormP g) {p i : Nat} (hp : p < g.2.1.length) (hs : stP g p ≠ 0) (hi : i < pgN g p) : ∃ w, BlkF g p i w := by
 obtain ⟨w, b, hw, hb, ec, b16, hB⟩ := blk_of f hp
 have B := hB i (by omega)
 refine ⟨w, hp, hs, hi, hw, B.cw_, by rw [ec, hb], B.a_, B.in_, ?_, by omega⟩
 rcases B.wb with ⟨e, -⟩ | ⟨e, -⟩ | ⟨e, -⟩ | ⟨e, -⟩ <;> omega
theorem blk_page {g : Heap} {p i w : Nat} (B : BlkF g p i w) : (((blA g p i : Nat) : Int) / 32).toNat = p := by
 have h1 := B.a_
 have h2 := B.in_
 rcases B.wb with rfl | rfl | rfl | rfl <;> omega
theorem blk_span {g : Heap} {p i w : Nat} (B : BlkF g p i w) : spanOf g (blA g p i) = g.2.1.getD p sz := by
 unfold spanOf
 rw [blk_page B]
theorem blk_idx {g : Heap} {p i w : Nat} (B : BlkF g p i w) : (blkI g (blA g p i)).toNat = i ∧ blkI g (blA g p i) = i := by
 have h1 := B.a_
 have h2 := B.in_
 unfold blkI
 rw [blk_span B, B.cw_]
 rcases B.wb with rfl | rfl | rfl | rfl <;> omega
theorem freed_blk {g : Heap} {p i w : Nat} (B : BlkF g p i w) : freed g (blA g p i) = (zer g.1 (blA g p i) w, g.2.1.set p ((g.2.1.getD p sz).1, (g.2.1.getD p sz).2.1, xr (g.2.1.getD p sz).2.2.1 i, ()), g.2.2) := by
 unfold freed
 rw [blk_span B, blk_page B, (blk_idx B).1, B.cw_]
 rfl
theorem freed_span {g : Heap} {p i w : Nat} (B : BlkF g p i w) (r : Nat) : (freed g (blA g p i)).2.1.getD r sz = if p = r then ((g.2.1.getD p sz).1, (g.2.1.getD p sz).2.1, xr (g.2.1.getD p sz).2.2.1 i, ()) else g.2.1.getD r sz := by
 have hp := B.hp
 rw [freed_blk B]
 show (List.set _ _ _).getD _ _ = _
 rw [getD_set_i]
 by_cases e : p = r
 ·rw [if_pos ⟨e, by omega⟩, if_pos e]
 ·rw [if_neg (fun hh => e hh.1), if_neg e]
theorem freed_cl {g : Heap} {p i w : Nat} (B : BlkF g p i w) (r : Nat) : ((freed g (blA g p i)).2.1.getD r sz).1 = (g.2.1.getD r sz).1 ∧ ((freed g (blA g p i)).2.1.getD r sz).2.1 = (g.2.1.getD r sz).2.1 := by
 rw [freed_span B]
 split
 ·rename_i e
  rw [← e]
  exact ⟨rfl, rfl⟩
 ·exact ⟨rfl, rfl⟩
theorem freed_fnd {g : Heap} {p i w : Nat} (B : BlkF g p i w) (b : Int) : fndB (freed g (blA g p i)) b = fndB g b := by
 obtain ⟨h1, h2⟩ := freed_cl B (b / 32).toNat
 have hl : (freed g (blA g p i)).2.1.length = g.2.1.length := by rw [freed_blk B]; exact List.length_set
 unfold fndB spanOf
 rw [h1, h2, hl]
theorem og_else {g : Heap} {b : Int} (e : okA g b = false) : og g b = (hz, false, ()) := by
 unfold okA og at *
 split at e
 ·cases e
 ·rename_i h
  rw [if_neg h]
theorem og_fnd {g g' : Heap} {b : Int} (h1 : fndB g' b = fndB g b) (h2 : fndB g b = true → g'.1.getD b.toNat 0 = g.1.getD b.toNat 0) : og g' b = og g b := by
 cases e : fndB g b with
 | false =>
  unfold og
  rw [h1, e]
  simp only [Bool.false_and, Bool.false_eq_true, if_false]
 | true =>
  unfold og
  rw [h1, h2 e]
theorem freed_og {g : Heap} (q : HP g) {p i w : Nat} (B : BlkF g p i w) (b : Int) : og (freed g (blA g p i)) b = if b = blA g p i then (hz, false, ()) else og g b := by
 have ha := B.a_
 have hin := B.in_
 have hl := q.f.len
 have hp := B.hp
 have hw : ∀ j, (freed g (blA g p i)).1.getD j 0 = if blA g p i ≤ j ∧ j < blA g p i + w then 0 else g.1.getD j 0 := fun j => by
  rw [freed_blk B]
  exact zer_getD (by omega) j
 have w0 : 0 < w := by rcases B.wb with rfl | rfl | rfl | rfl <;> decide
 by_cases e : b = blA g p i
 ·rw [if_pos e]
  refine og_else (okA_zero0 ?_)
  rw [e, hw, Int.toNat_natCast, if_pos ⟨Nat.le_refl _, by omega⟩]
 ·rw [if_neg e]
  refine og_fnd (freed_fnd B b) fun hb => ?_
  rw [hw, if_neg]
  rintro ⟨c1, c2⟩
  obtain ⟨p', i', hp', hs', hi', hb', -⟩ := fnd_blkX q.f hb
  obtain ⟨w', B'⟩ := blkF_of q.f hp' hs' hi'
  have ha' := B'.a_
  have hin' := B'.in_
  have e2 : p' = p := by omega
  subst e2
  have e3 : w' = w := by have := B.w_; have := B'.w_; omega
  subst e3
  have e4 : i' = i := by rcases B.wb with rfl | rfl | rfl | rfl <;> omega
  subst e4
  exact e hb'.symm
theorem freed_fil {g : Heap} (q : HP g) (F : FilP g) {p i w : Nat} (B : BlkF g p i w) (hu : freB g p i = false) : FilP (freed g (blA g p i)) := by
 intro r k hr hs hk
 have hl : (freed g (blA g p i)).2.1.length = g.2.1.length := by rw [freed_blk B]; exact List.length_set
 obtain ⟨c1, c2⟩ := freed_cl B r
 have hst : stP (freed g (blA g p i)) r = stP g r := c1
 have hpn : pgN (freed g (blA g p i)) r = pgN g r := by unfold pgN; rw [c2]
 have hbl : blA (freed g (blA g p i)) r k = blA g r k := by
  show 32 * r + k * (cw ((freed g (blA g p i)).2.1.getD r sz).2.1).toNat = _
  rw [c2]
  rfl
 rw [hl] at hr
 rw [hst] at hs
 rw [hpn] at hk
 obtain ⟨f1, f2⟩ := F r k hr hs hk
 obtain ⟨w', B'⟩ := blkF_of q.f hr hs hk
 have hm : (g.2.1.getD p sz) ∈ g.2.1 := by rw [get_d _ _ _ B.hp]; exact List.getElem_mem _
 have h0 := q.fr _ hm
 have hfre : freB (freed g (blA g p i)) r k = if p = r ∧ k = i then true else freB g r k := by
  unfold freB
  rw [freed_span B]
  by_cases e : p = r
  ·subst e
   rw [if_pos rfl]
   show bit (xr _ _) k = _
   rw [xr_bit h0]
   by_cases e2 : k = i
   ·subst e2
    have hu' : bit (g.2.1.getD p sz).2.2.1 k = false := hu
    rw [if_pos rfl, if_pos ⟨rfl, rfl⟩, hu']
    rfl
   ·rw [if_neg e2, if_neg (fun hh => e2 hh.2)]
  ·rw [if_neg e, if_neg (fun hh => e hh.1)]
 have hne : (p = r ∧ k = i) ∨ (blA g r k : Int) ≠ blA g p i := by
  by_cases e : p = r ∧ k = i
  ·exact .inl e
  ·refine .inr fun h => e ?_
   have a1 := B.a_
   have a2 := B'.a_
   have i1 := B.in_
   have i2 := B'.in_
   have w0 : 0 < w := by rcases B.wb with rfl | rfl | rfl | rfl <;> decide
   have w1 : 0 < w' := by rcases B'.wb with rfl | rfl | rfl | rfl <;> decide
   have e2 : p = r := by omega
   subst e2
   have e3 : w' = w := by have := B.w_; have := B'.w_; omega
   subst e3
   refine ⟨rfl, ?_⟩
   rcases B.wb with rfl | rfl | rfl | rfl <;> omega
 rw [hbl, hfre, c2]
 unfold okA at f1 f2 ⊢
 rw [freed_og q B]
 rcases hne with ⟨rfl, rfl⟩ | hne
 ·rw [if_pos rfl, if_pos ⟨rfl, rfl⟩]
  exact ⟨rfl, fun h => by cases h⟩
 ·rw [if_neg hne, if_neg (fun hh => hne (by rw [← hh.1, hh.2]))]
  exact ⟨f1, f2⟩
end Go.Proofs.YtkjpakaidjpjgaaGreatDoor.Den
/- Pure laws: a page swept: what is left. -/
namespace Go.Proofs.YtkjpakaidjpjgaaGreatDoor.Den
open Go
set_option linter.unusedVariables false
set_option linter.unusedSimpArgs false
set_option maxRecDepth 100000
structure SwR (h g : Heap) : Prop where
 hp : HP g
 fl : FilP g
 wl : g.1.length = h.1.length
 sl : g.2.1.length = h.2.1.length
 c : g.2.2 = h.2.2
 og : ∀ b, og g b = og h b ∨ (og g b = (hz, false, ()) ∧ okA h b = true ∧ bk h b = false)
theorem bk_congr {h g : Heap} {b : Int} (e : og g b = og h b) (c : g.2.2 = h.2.2) : bk g b = bk h b := by
 unfold bk
 rw [e, c]
theorem ok_congr {h g : Heap} {b : Int} (e : og g b = og h b) : okA g b = okA h b := by
 unfold okA
 rw [e]
theorem SwR.refl {h : Heap} (q : HP h) (F : FilP h) : SwR h h := ⟨q, F, rfl, rfl, rfl, fun b => .inl rfl⟩
theorem SwR.trans {h g k : Heap} (R : SwR h g) (S : SwR g k) : SwR h k := by
 refine ⟨S.hp, S.fl, S.wl.trans R.wl, S.sl.trans R.sl, S.c.trans R.c, fun b => ?_⟩
 rcases S.og b with e | ⟨e, e1, e2⟩
 ·rw [e]
  exact R.og b
 ·rcases R.og b with e3 | ⟨e3, -, -⟩
  ·rw [ok_congr e3] at e1
   rw [bk_congr e3 R.c] at e2
   exact .inr ⟨e, e1, e2⟩
  ·unfold okA at e1
   rw [e3] at e1
   cases e1
theorem free_of {g : Heap} (q : HP g) (F : FilP g) {p i w : Nat} (B : BlkF g p i w) (ho : okA g (blA g p i) = true) : freeP g (blA g p i) ∧ freB g p i = false := by
 have hu : freB g p i = false := by
  have := (F p i B.hp B.hs B.hi).1
  rw [ho] at this
  simpa using this.symm
 have hm : (g.2.1.getD p sz) ∈ g.2.1 := by rw [get_d _ _ _ B.hp]; exact List.getElem_mem _
 refine ⟨⟨(og_ok ho).1, ?_⟩, hu⟩
 have hi := B.hi
 rw [blk_span B, (blk_idx B).2]
 exact ⟨(right_use (q.f.right _ hm) B.hs).1, by omega, by rw [B.cb_]; omega, by rw [Int.toNat_natCast]; exact hu⟩
theorem SwR.freed {g : Heap} (q : HP g) (F : FilP g) {p i w : Nat} (B : BlkF g p i w) (ho : okA g (blA g p i) = true) (hb : bk g (blA g p i) = false) : SwR g (freed g (blA g p i)) := by
 obtain ⟨fp, hu⟩ := free_of q F B ho
 have hin := B.in_
 have ha := B.a_
 have hp := B.hp
 have hl := q.f.len
 refine ⟨freed_hp q fp, freed_fil q F B hu, ?_, ?_, by rw [freed_blk B], fun b => ?_⟩
 ·rw [freed_blk B]
  exact zer_len (by omega)
 ·rw [freed_blk B]
  exact List.length_set
 ·rw [freed_og q B]
  by_cases e : b = blA g p i
  ·rw [if_pos e, e]
   exact .inr ⟨rfl, ho, hb⟩
  ·rw [if_neg e]
   exact .inl rfl
theorem swF_R {h : Heap} (q : HP h) (F : FilP h) {p : Nat} (hp : p < h.2.1.length) (hs : stP h p ≠ 0) : ∀ n, n ≤ pgN h p →
  SwR h (swF h p n).1 ∧ ∀ i, i < n → okA (swF h p n).1 (blA h p i) = true → bk (swF h p n).1 (blA h p i) = true
 | 0, _ => ⟨SwR.refl q F, fun i hi => absurd hi (by omega)⟩
 | n + 1, hn => by
  obtain ⟨R, D⟩ := swF_R q F hp hs n (by omega)
  obtain ⟨I, -, -⟩ := swF_ok q p n
  show SwR h (sw1 (pgW h p) (swF h p n) (blA h p n)).1 ∧ ∀ i, i < n + 1 → okA (sw1 (pgW h p) (swF h p n) (blA h p n)).1 (blA h p i) = true → bk (sw1 (pgW h p) (swF h p n) (blA h p n)).1 (blA h p i) = true
  unfold sw1
  obtain ⟨g, hg⟩ : ∃ g, (swF h p n).1 = g := ⟨_, rfl⟩
  rw [hg] at R D I ⊢
  obtain ⟨c1, c2⟩ := I.cl p
  have hsl := I.sl
  have hbl : ∀ i, blA g p i = blA h p i := fun i => by
   show 32 * p + i * (cw (g.2.1.getD p sz).2.1).toNat = _
   rw [c2]
   rfl
  have hpn : pgN g p = pgN h p := by unfold pgN; rw [c2]
  obtain ⟨w, B⟩ := blkF_of R.hp.f (p := p) (i := n) (by omega) (by show (g.2.1.getD p sz).1 ≠ 0; rw [c1]; exact hs) (by omega)
  rw [← hbl n]
  by_cases c : (okA g (blA g p n) && !bk g (blA g p n)) = true ∧ freeP g (blA g p n)
  ·rw [if_pos c]
   have c0 := c.1
   rw [Bool.and_eq_true, Bool.not_eq_true'] at c0
   have S := SwR.freed R.hp R.fl B c0.1 c0.2
   refine ⟨R.trans S, fun i hi ho => ?_⟩
   have e := freed_og R.hp B (blA h p i)
   have ho2 : okA (freed g (blA g p n)) (blA h p i) = true := ho
   show bk (freed g (blA g p n)) (blA h p i) = true
   by_cases e2 : (blA h p i : Int) = blA g p n
   ·rw [if_pos e2] at e
    unfold okA at ho2
    rw [e] at ho2
    cases ho2
   ·rw [if_neg e2] at e
    rw [bk_congr e S.c]
    rw [ok_congr e] at ho2
    have hin : i < n := by
     rcases Nat.lt_or_ge i n with h1 | h1
     ·exact h1
     ·have : i = n := by omega
      subst this
      exact absurd (by rw [hbl i]) e2
    exact D i hin ho2
  ·rw [if_neg c, hg]
   refine ⟨R, fun i hi ho => ?_⟩
   rcases Nat.lt_or_ge i n with h1 | h1
   ·exact D i h1 ho
   ·have : i = n := by omega
    subst this
    rw [← hbl i] at ho ⊢
    cases hb : bk g (blA g p i) with
    | true => rfl
    | false => exact absurd ⟨by rw [ho, hb]; rfl, (free_of R.hp R.fl B ho).1⟩ c
end Go.Proofs.YtkjpakaidjpjgaaGreatDoor.Den
/- Pure laws: pages' states turned; a sweep; all sweeps. -/
namespace Go.Proofs.YtkjpakaidjpjgaaGreatDoor.Den
open Go
set_option linter.unusedVariables false
set_option linter.unusedSimpArgs false
set_option maxRecDepth 100000
theorem swR_spans {g k : Heap} (q : HP k) (F : FilP g) (hw : k.1 = g.1) (hl : k.2.1.length = g.2.1.length) (hc : k.2.2 = g.2.2)
  (hs : ∀ r, ((k.2.1.getD r sz).1 ≠ 0 ↔ (g.2.1.getD r sz).1 ≠ 0) ∧ (k.2.1.getD r sz).2 = (g.2.1.getD r sz).2) : SwR g k := by
 have ho : ∀ b, og k b = og g b := fun b => by
  refine og_fnd ?_ fun _ => by rw [hw]
  obtain ⟨h1, h2⟩ := hs (b / 32).toNat
  unfold fndB spanOf
  rw [h2, hl]
  exact decide_eq_decide.2 ⟨fun ⟨a, b, c, d⟩ => ⟨a, b, h1.1 c, d⟩, fun ⟨a, b, c, d⟩ => ⟨a, b, h1.2 c, d⟩⟩
 refine ⟨q, fun p i hp hst hi => ?_, by rw [hw], hl, hc, fun b => .inl (ho b)⟩
 obtain ⟨h1, h2⟩ := hs p
 have hb : blA k p i = blA g p i := by
  show 32 * p + i * (cw (k.2.1.getD p sz).2.1).toNat = _
  rw [h2]
  rfl
 have hn : pgN k p = pgN g p := by unfold pgN; rw [h2]
 have hf : freB k p i = freB g p i := by unfold freB; rw [h2]
 have := F p i (by omega) (h1.1 hst) (by omega)
 rw [hb, hf, ok_congr (ho _), ho, h2]
 exact this
theorem beg_R {h : Heap} (q : HP h) (F : FilP h) : SwR h (begS h) := by
 refine swR_spans (hp_beg q) F rfl (by show (h.2.1.map dirtS).length = _; rw [List.length_map]) rfl fun r => ?_
 have e : (begS h).2.1.getD r sz = dirtS (h.2.1.getD r sz) := by
  show (h.2.1.map dirtS).getD r sz = _
  rw [List.getD_eq_getElem?_getD, List.getElem?_map, List.getD_eq_getElem?_getD]
  cases h.2.1[r]? <;> rfl
 rw [e]
 unfold dirtS
 split
 ·rename_i e1
  exact ⟨⟨fun _ => by rw [e1]; decide, fun _ => by show (2 : Int) ≠ 0; decide⟩, rfl⟩
 ·exact ⟨Iff.rfl, rfl⟩
theorem set_at {g : Heap} {p : Nat} (hp : p < g.2.1.length) (s : Span) (r : Nat) : (setSp g (p : Int) s).2.1.getD r sz = if p = r then s else g.2.1.getD r sz := by
 show (List.set _ _ _).getD r sz = _
 rw [getD_set_i, Int.toNat_natCast]
 by_cases e : p = r
 ·rw [if_pos ⟨e, by omega⟩, if_pos e]
 ·rw [if_neg (fun hh => e hh.1), if_neg e]
theorem open_R {g : Heap} (q : HP g) (F : FilP g) {p : Nat} (hp : p < g.2.1.length) (hs : stP g p ≠ 0) : SwR g (setSp g (p : Int) (1, (g.2.1.getD p sz).2)) := by
 have hm : (g.2.1.getD p sz) ∈ g.2.1 := by rw [get_d _ _ _ hp]; exact List.getElem_mem _
 refine swR_spans (hp_setSp q _ (right_open (.inl rfl) (q.f.right _ hm) hs) (by have := q.fr _ hm; exact this)) F rfl (List.length_set) rfl fun r => ?_
 rw [set_at hp]
 split
 ·rename_i e
  rw [← e]
  exact ⟨⟨fun _ => hs, fun _ => by show (1 : Int) ≠ 0; decide⟩, rfl⟩
 ·exact ⟨Iff.rfl, rfl⟩
theorem close_R {g : Heap} (q : HP g) (F : FilP g) {p : Nat} (hp : p < g.2.1.length) (hs : stP g p ≠ 0) (hf : ∀ i, i < pgN g p → freB g p i = true) : SwR g (setSp g (p : Int) sz) := by
 have ho : ∀ b, og (setSp g (p : Int) sz) b = og g b := fun b => by
  by_cases e : p = (b / 32).toNat
  ·have h1 : okA g b = false := by
    cases ho : okA g b with
    | false => rfl
    | true =>
     obtain ⟨p', i', hp', hs', hi', hb', -⟩ := fnd_blkX q.f (og_ok ho).1
     obtain ⟨w', B'⟩ := blkF_of q.f hp' hs' hi'
     have := blk_page B'
     rw [hb'] at this
     have e2 : p' = p := by omega
     subst e2
     have := (F p' i' hp' hs' hi').1
     rw [hb', ho, hf i' hi'] at this
     cases this
   rw [og_else h1]
   refine og_else ?_
   cases ho : okA (setSp g (p : Int) sz) b with
   | false => rfl
   | true =>
    have h2 := of_decide_eq_true (og_ok ho).1
    have h3 : spanOf (setSp g (p : Int) sz) b = sz := by
     unfold spanOf
     rw [set_at hp, if_pos e]
    rw [h3] at h2
    exact absurd rfl h2.2.2.1
  ·refine og_fnd ?_ fun _ => rfl
   have h3 : spanOf (setSp g (p : Int) sz) b = spanOf g b := by
    unfold spanOf
    rw [set_at hp, if_neg e]
   have hl : (setSp g (p : Int) sz).2.1.length = g.2.1.length := List.length_set
   unfold fndB
   rw [h3, hl]
 refine ⟨hp_setSp q _ right_sz (by show (0 : Int) ≤ 0; omega), fun r i hr hst hi => ?_, rfl, List.length_set, rfl, fun b => .inl (ho b)⟩
 have hl : (setSp g (p : Int) sz).2.1.length = g.2.1.length := List.length_set
 have hne : ¬ p = r := fun e => by
  unfold stP at hst
  rw [set_at hp, if_pos e] at hst
  exact hst rfl
 have e : (setSp g (p : Int) sz).2.1.getD r sz = g.2.1.getD r sz := by rw [set_at hp, if_neg hne]
 have hb : blA (setSp g (p : Int) sz) r i = blA g r i := by
  show 32 * r + i * (cw ((setSp g (p : Int) sz).2.1.getD r sz).2.1).toNat = _
  rw [e]
  rfl
 have hn : pgN (setSp g (p : Int) sz) r = pgN g r := by unfold pgN; rw [e]
 have hf2 : freB (setSp g (p : Int) sz) r i = freB g r i := by unfold freB; rw [e]
 have hst2 : stP g r ≠ 0 := by unfold stP at hst ⊢; rw [e] at hst; exact hst
 have := F r i (by omega) hst2 (by omega)
 rw [hb, hf2, ok_congr (ho _), ho, e]
 exact this
end Go.Proofs.YtkjpakaidjpjgaaGreatDoor.Den
/- Pure laws: one sweep. -/
namespace Go.Proofs.YtkjpakaidjpjgaaGreatDoor.Den
open Go
set_option linter.unusedVariables false
set_option linter.unusedSimpArgs false
set_option maxRecDepth 100000
theorem oneG_R {h : Heap} (q : HP h) (F : FilP h) (c : List (List Int)) {p : Nat} (hp : p < h.2.1.length) (hd : (h.2.1.getD p sz).1 = 2) :
  SwR h (oneG h c p) ∧ (∀ i, i < pgN h p → okA (oneG h c p) (blA h p i) = true → bk (oneG h c p) (blA h p i) = true) ∧ (∀ r, r ≠ p → ((oneG h c p).2.1.getD r sz).1 = (h.2.1.getD r sz).1) := by
 have hs : stP h p ≠ 0 := by unfold stP; rw [hd]; decide
 obtain ⟨R, D⟩ := swF_R q F hp hs (pgN h p) (Nat.le_refl _)
 obtain ⟨I, -, -⟩ := swF_ok q p (pgN h p)
 unfold oneG
 obtain ⟨g, hg⟩ : ∃ g, (swF h p (pgN h p)).1 = g := ⟨_, rfl⟩
 rw [hg] at R D I ⊢
 obtain ⟨c1, c2⟩ := I.cl p
 have hsl := I.sl
 have hgs : stP g p ≠ 0 := by unfold stP; rw [c1]; exact hs
 have hpg : p < g.2.1.length := by omega
 have fin : ∀ s : Span, SwR g (setSp g (p : Int) s) → SwR h (g.1, g.2.1.set p s, h.2.2) ∧ (∀ i, i < pgN h p → okA ((g.1, g.2.1.set p s, h.2.2) : Heap) (blA h p i) = true → bk ((g.1, g.2.1.set p s, h.2.2) : Heap) (blA h p i) = true) ∧ (∀ r, r ≠ p → (((g.1, g.2.1.set p s, h.2.2) : Heap).2.1.getD r sz).1 = (h.2.1.getD r sz).1) := fun s S => by
  have e : ((g.1, g.2.1.set p s, h.2.2) : Heap) = setSp g (p : Int) s := by rw [← I.c]; rfl
  rw [e]
  refine ⟨R.trans S, fun i hi ho => ?_, fun r hr => ?_⟩
  ·rcases S.og (blA h p i) with e1 | ⟨e1, -, -⟩
   ·rw [ok_congr e1] at ho
    rw [bk_congr e1 S.c]
    exact D i hi ho
   ·unfold okA at ho
    rw [e1] at ho
    cases ho
  ·rw [set_at hpg, if_neg (fun h => hr h.symm)]
   exact (I.cl r).1
 split
 ·rename_i hh
  refine fin sz (close_R R.hp R.fl hpg hgs fun i hi => ?_)
  obtain ⟨w, B⟩ := blkF_of R.hp.f hpg hgs hi
  unfold freB
  rw [hh.1, bit_whole, ← c2, B.cb_, Int.toNat_natCast]
  exact decide_eq_true hi
 ·exact fin _ (open_R R.hp R.fl hpg hgs)
def DirtP (g : Heap) : Prop := ∀ b, okA g b = true → bk g b = false → (spanOf g b).1 = 2
theorem swp_R {h g : Heap} (R : SwR h g) (D : DirtP g) (c : List (List Int)) : SwR h (swpH g c) ∧ DirtP (swpH g c) := by
 unfold swpH
 cases e : fstD g with
 | none => exact ⟨R, D⟩
 | some p =>
  obtain ⟨hp, hd, -⟩ := fstD_some e
  obtain ⟨S, K, O⟩ := oneG_R R.hp R.fl c hp hd
  refine ⟨R.trans S, fun b ho hb => ?_⟩
  show (spanOf (oneG g c p) b).1 = 2
  have ho : okA (oneG g c p) b = true := ho
  have hb : bk (oneG g c p) b = false := hb
  rcases S.og b with e1 | ⟨e1, -, -⟩
  ·have ho2 := ho
   have hb2 := hb
   rw [ok_congr e1] at ho2
   rw [bk_congr e1 S.c] at hb2
   have h2 := D b ho2 hb2
   obtain ⟨p', i', hp', hs', hi', hb', -⟩ := fnd_blkX R.hp.f (og_ok ho2).1
   obtain ⟨w', B'⟩ := blkF_of R.hp.f hp' hs' hi'
   have hpg := blk_page B'
   rw [hb'] at hpg
   by_cases ep : p' = p
   ·subst ep
    have := K i' hi' (by rw [hb']; exact ho)
    rw [hb', hb] at this
    cases this
   ·unfold spanOf at h2 ⊢
    rw [hpg] at h2 ⊢
    rw [O p' ep]
    exact h2
  ·unfold okA at ho
   rw [e1] at ho
   cases ho
theorem swept_used {h g : Heap} (R : SwR h g) (D : DirtP g) (hz : dcnt g = 0) : usN g g.2.1.length = wsum h ((lst h).filter (bk h)) := by
 have nd : ∀ b, okA g b = true → bk g b = true := fun b ho => by
  cases hb : bk g b with
  | true => rfl
  | false =>
   have h2 := D b ho hb
   have hr := fndB_rng (og_ok ho).1
   unfold dcnt at hz
   rw [List.countP_eq_zero] at hz
   unfold spanOf at h2
   rw [get_d _ _ _ (show (b / 32).toNat < g.2.1.length by omega)] at h2
   exact absurd (decide_eq_true h2) (hz _ (List.getElem_mem _))
 have hok : ∀ b, okA g b = (okA h b && bk h b) := fun b => by
  rcases R.og b with e1 | ⟨e1, -, e3⟩
  ·cases ho : okA h b with
   | false => rw [ok_congr e1, ho]; rfl
   | true =>
    have := nd b (by rw [ok_congr e1]; exact ho)
    rw [bk_congr e1 R.c] at this
    rw [ok_congr e1, ho, this]
    rfl
  ·rw [e3, Bool.and_false]
   unfold okA
   rw [e1]
 rw [used_wsum R.hp R.fl]
 have hl : lst g = (lst h).filter (bk h) := by
  unfold lst lstN
  rw [R.wl, List.filter_filter]
  refine List.filter_congr fun b _ => ?_
  rw [hok b, Bool.and_comm]
 rw [hl]
 unfold wsum
 refine congrArg List.sum (List.map_congr_left fun b hb => ?_)
 rw [List.mem_filter] at hb
 rcases R.og b with e1 | ⟨-, -, e3⟩
 ·rw [e1]
 ·rw [hb.2] at e3
  cases e3
end Go.Proofs.YtkjpakaidjpjgaaGreatDoor.Den
