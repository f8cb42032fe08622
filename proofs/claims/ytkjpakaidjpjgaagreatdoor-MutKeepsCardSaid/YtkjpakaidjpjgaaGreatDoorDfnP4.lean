/- Pure laws. -/
import Derived.Test.YtkjpakaidjpjgaaGreatDoorDfnP3
import Derived.Test.YtkjpakaidjpjgaaGreatDoorDfnP2
import Derived.Test.YtkjpakaidjpjgaaGreatDoorDfnFz
/- Pure laws: how long marking goes on. -/
namespace Go.Proofs.YtkjpakaidjpjgaaGreatDoor.Dfn
open Go
set_option linter.unusedVariables false
set_option linter.unusedSimpArgs false
set_option maxRecDepth 100000
theorem countP_up {α : Type} {p q : α → Bool} : ∀ {l : List α}, (∀ x ∈ l, q x = true → p x = true) → l.countP q ≤ l.countP p
 | [], _ => Nat.le_refl _
 | x :: l, h => by
  have ih := countP_up (p := p) (q := q) (l := l) fun y hy => h y (List.mem_cons_of_mem _ hy)
  rw [List.countP_cons, List.countP_cons]
  cases hq : q x with
  | true => rw [h x List.mem_cons_self hq]; simp; exact ih
  | false => cases p x <;> simp <;> omega
theorem countP_lt {α : Type} {p q : α → Bool} {a : α} : ∀ {l : List α}, (∀ x ∈ l, q x = true → p x = true) → a ∈ l → p a = true → q a = false → l.countP q + 1 ≤ l.countP p
 | x :: l, h, ha, h1, h2 => by
  have ih := countP_up (p := p) (q := q) (l := l) fun y hy => h y (List.mem_cons_of_mem _ hy)
  rw [List.countP_cons, List.countP_cons]
  rcases List.mem_cons.1 ha with rfl | ha
  ·rw [h1, h2]; simp; exact ih
  ·have ih := countP_lt (p := p) (q := q) (l := l) (fun y hy => h y (List.mem_cons_of_mem _ hy)) ha h1 h2
   cases hq : q x with
   | true => rw [h x List.mem_cons_self hq]; simp; omega
   | false => cases p x <;> simp <;> omega
def wht (h0 h : Heap) : Nat := (lst h0).countP fun a => !bk h a
def nit (m : MarkT) : Nat := m.1.2.1.length + (m.2.1.map fun g => g.2.1.length).sum
def ovP (h0 : Heap) (v : Bool) : Nat := if v = true then 17 * (lst h0).length + 2 else 0
def curP (h0 : Heap) (c : Int) : Nat := if c = -1 then 0 else 1 + 17 * (lst h0).countP fun a => decide (c ≤ a)
def hndP (h0 : Heap) (o i : Int) : Nat := if o = -1 then 0 else (cnt h0 o - i).toNat
def pot (h0 h : Heap) (m : MarkT) : Nat := wht h0 h * (17 * (lst h0).length + 8) + ovP h0 m.2.2.2.2.2.2.1 + curP h0 m.2.2.2.2.2.1 + m.2.2.1.length + 17 * nit m + hndP h0 m.2.2.2.1 m.2.2.2.2.1
theorem Shd.pot {h0 h h' : Heap} (f0 : FormP h0) {S : Int → Bool} (e : h = pn h0 S) {g g' : Grey} {v : Val} {w : Bool} (s : Shd h g v h' g' w) (b : Bool) :
  wht h0 h' * (17 * (lst h0).length + 8) + 17 * g'.2.1.length + ovP h0 (b || w) ≤ wht h0 h * (17 * (lst h0).length + 8) + 17 * g.2.1.length + ovP h0 b := by
 have f : FormP h := by rw [e]; exact f0.pn S
 have sf := s.facts f
 have less : v.1 = 2 → okA h v.2.1 = true → bk h v.2.1 = false → wht h0 h' * (17 * (lst h0).length + 8) + (17 * (lst h0).length + 8) ≤ wht h0 h * (17 * (lst h0).length + 8) ∧ 1 ≤ (lst h0).length := by
  intro h1 h2 h3
  have hm : v.2.1 ∈ lst h0 := (mem_lst f0).2 (by rw [← okA_pn f0 S, ← e]; exact h2)
  have : wht h0 h' + 1 ≤ wht h0 h := by
   refine countP_lt (fun x _ hx => ?_) hm (by rw [h3]; rfl) (by rw [sf.now h1 h2]; rfl)
   cases hb : bk h x with
   | false => rfl
   | true => rw [sf.up x hb] at hx; cases hx
  have h5 := Nat.mul_le_mul_right (17 * (lst h0).length + 8) this
  rw [Nat.add_mul, Nat.one_mul] at h5
  exact ⟨h5, List.length_pos_of_mem hm⟩
 cases s with
 | none h1 => rw [Bool.or_false]; exact Nat.le_refl _
 | push h1 h2 h3 h4 h5 =>
  obtain ⟨h6, h7⟩ := less h1 h2 h3
  rw [Bool.or_false]
  simp only [List.length_append, List.length_singleton]
  omega
 | full h1 h2 h3 =>
  obtain ⟨h6, h7⟩ := less h1 h2 h3
  rw [Bool.or_true]
  unfold ovP
  rw [if_pos rfl]
  split <;> omega
theorem hnd_hand {h0 h : Heap} (f0 : FormP h0) {S : Int → Bool} (e : h = pn h0 S) (g : Grey) (bs : List Grey) (rs : List Val) (c : Int) (v : Bool) (a : Int) : pot h0 h (hand h (g, bs, rs, -1, 0, c, v, ()) a) ≤ pot h0 h (g, bs, rs, -1, 0, c, v, ()) + 15 := by
 rcases hand_cases h g bs rs c v a with ⟨h1, h2, e'⟩ | ⟨_, e'⟩
 ·rw [e']
  rw [e, okA_pn f0] at h1
  have := og_rng f0 h1
  have e2 : cnt h0 a = (og h0 a).1.2.2.2.1 := rfl
  have : hndP h0 a 0 ≤ 15 := by
   unfold hndP
   split <;> omega
  show wht h0 h * (17 * (lst h0).length + 8) + ovP h0 v + curP h0 c + rs.length + 17 * nit (g, bs, rs, -1, 0, c, v, ()) + hndP h0 a 0 ≤ wht h0 h * (17 * (lst h0).length + 8) + ovP h0 v + curP h0 c + rs.length + 17 * nit (g, bs, rs, -1, 0, c, v, ()) + hndP h0 (-1) 0 + 15
  omega
 ·rw [e']; omega
theorem Stp.pot {h0 h h' : Heap} (f0 : FormP h0) {S : Int → Bool} (e : h = pn h0 S) {m m' : MarkT} (s : Stp h m h' m') : pot h0 h' m' + 1 ≤ pot h0 h m := by
 have f : FormP h := by rw [e]; exact f0.pn S
 cases s with
 | @fld g g' bs rs o i c v w h' ho he s =>
  have sp := s.pot f0 e v
  rw [e, fe_pn f0] at he
  obtain ⟨q1, q2, q3⟩ := fe_ok he
  have hc : cnt h o = cnt h0 o := by rw [e]; exact cnt_pnA f0 S q1
  have : hndP h0 (if cnt h o ≤ i + 1 then -1 else o) (if cnt h o ≤ i + 1 then 0 else i + 1) + 1 ≤ hndP h0 o i := by
   unfold hndP
   rw [hc, if_neg ho]
   by_cases hl : cnt h0 o ≤ i + 1
   ·rw [if_pos hl, if_pos hl, if_pos rfl]; omega
   ·rw [if_neg hl, if_neg hl, if_neg ho]; omega
  show wht h0 h' * (17 * (lst h0).length + 8) + ovP h0 (v || w) + curP h0 c + rs.length + 17 * (g'.2.1.length + (bs.map fun g => g.2.1.length).sum) + hndP h0 (if cnt h o ≤ i + 1 then -1 else o) (if cnt h o ≤ i + 1 then 0 else i + 1) + 1 ≤ wht h0 h * (17 * (lst h0).length + 8) + ovP h0 v + curP h0 c + rs.length + 17 * (g.2.1.length + (bs.map fun g => g.2.1.length).sum) + hndP h0 o i
  omega
 | @pop r l a bs rs c v =>
  have := hnd_hand f0 e (r, l, ()) bs rs c v a
  have e2 : Go.Proofs.YtkjpakaidjpjgaaGreatDoor.Dfn.pot h0 h ((r, l ++ [a], ()), bs, rs, -1, 0, c, v, ()) = Go.Proofs.YtkjpakaidjpjgaaGreatDoor.Dfn.pot h0 h ((r, l, ()), bs, rs, -1, 0, c, v, ()) + 17 := by
   simp only [Go.Proofs.YtkjpakaidjpjgaaGreatDoor.Dfn.pot, nit, List.length_append, List.length_singleton]
   omega
  omega
 | @row g xs ys r l a rs c v =>
  have := hnd_hand f0 e g (xs ++ (r, l, ()) :: ys) rs c v a
  have e2 : Go.Proofs.YtkjpakaidjpjgaaGreatDoor.Dfn.pot h0 h (g, xs ++ (r, l ++ [a], ()) :: ys, rs, -1, 0, c, v, ()) = Go.Proofs.YtkjpakaidjpjgaaGreatDoor.Dfn.pot h0 h (g, xs ++ (r, l, ()) :: ys, rs, -1, 0, c, v, ()) + 17 := by
   simp only [Go.Proofs.YtkjpakaidjpjgaaGreatDoor.Dfn.pot, nit, List.map_append, List.map_cons, List.sum_append, List.sum_cons, List.length_append, List.length_singleton]
   omega
  omega
 | @root g g' bs x rs c v w h' s =>
  have sp := s.pot f0 e v
  show wht h0 h' * (17 * (lst h0).length + 8) + ovP h0 (v || w) + curP h0 c + rs.length + 17 * (g'.2.1.length + (bs.map fun g => g.2.1.length).sum) + hndP h0 (-1) 0 + 1 ≤ wht h0 h * (17 * (lst h0).length + 8) + ovP h0 v + curP h0 c + (x :: rs).length + 17 * (g.2.1.length + (bs.map fun g => g.2.1.length).sum) + hndP h0 (-1) 0
  rw [List.length_cons]
  omega
 | @cur g bs rs c v a hc ha hb hx =>
  have h1 := hnd_hand f0 e g bs rs (a + 1) v a
  have h0' := (fndB_rng (og_ok (bk_ok hb)).1).1
  have hm : a ∈ lst h0 := (mem_lst f0).2 (by rw [← okA_pn f0 S, ← e]; exact bk_ok hb)
  have h2 : ((lst h0).countP fun x => decide (a + 1 ≤ x)) + 1 ≤ (lst h0).countP fun x => decide (c ≤ x) := by
   refine countP_lt (fun x _ hx => ?_) hm (decide_eq_true ha) (decide_eq_false (by omega))
   have hx := of_decide_eq_true hx
   exact decide_eq_true (by omega)
  have e2 : Go.Proofs.YtkjpakaidjpjgaaGreatDoor.Dfn.pot h0 h (g, bs, rs, -1, 0, a + 1, v, ()) + 17 ≤ Go.Proofs.YtkjpakaidjpjgaaGreatDoor.Dfn.pot h0 h (g, bs, rs, -1, 0, c, v, ()) := by
   show wht h0 h * (17 * (lst h0).length + 8) + ovP h0 v + curP h0 (a + 1) + rs.length + 17 * nit (g, bs, rs, -1, 0, c, v, ()) + hndP h0 (-1) 0 + 17 ≤ wht h0 h * (17 * (lst h0).length + 8) + ovP h0 v + curP h0 c + rs.length + 17 * nit (g, bs, rs, -1, 0, c, v, ()) + hndP h0 (-1) 0
   have n1 : ¬ a + 1 = -1 := by omega
   unfold curP
   rw [if_neg n1, if_neg hc]
   omega
  omega
 | @noc g bs rs c v hc hx =>
  show wht h0 h * (17 * (lst h0).length + 8) + ovP h0 v + curP h0 (-1) + rs.length + 17 * nit (g, bs, rs, -1, 0, c, v, ()) + hndP h0 (-1) 0 + 1 ≤ wht h0 h * (17 * (lst h0).length + 8) + ovP h0 v + curP h0 c + rs.length + 17 * nit (g, bs, rs, -1, 0, c, v, ()) + hndP h0 (-1) 0
  unfold curP
  rw [if_pos rfl, if_neg hc]
  omega
 | @ovr g bs rs =>
  have h1 : ((lst h0).countP fun x => decide ((0 : Int) ≤ x)) ≤ (lst h0).length := List.countP_le_length
  show wht h0 h * (17 * (lst h0).length + 8) + ovP h0 false + curP h0 0 + rs.length + 17 * nit (g, bs, rs, -1, 0, 0, false, ()) + hndP h0 (-1) 0 + 1 ≤ wht h0 h * (17 * (lst h0).length + 8) + ovP h0 true + curP h0 (-1) + rs.length + 17 * nit (g, bs, rs, -1, 0, 0, false, ()) + hndP h0 (-1) 0
  unfold curP ovP
  rw [if_pos rfl, if_neg (by decide), if_pos rfl, if_neg (by decide)]
  omega
def bnd (h : Heap) (m : MarkT) : Nat := ((lst h).length + 3) * (17 * (lst h).length + 8) + m.2.2.1.length + 17 * nit m + 20
theorem pot_le {h0 h : Heap} (f0 : FormP h0) {S : Int → Bool} (e : h = pn h0 S) {m : MarkT} (p : MkP h m) : pot h0 h m ≤ bnd h0 m := by
 have h1 : wht h0 h ≤ (lst h0).length := List.countP_le_length
 have h2 := Nat.mul_le_mul_right (17 * (lst h0).length + 8) h1
 have h3 : ovP h0 m.2.2.2.2.2.2.1 ≤ 17 * (lst h0).length + 2 := by unfold ovP; split <;> omega
 have h4 : curP h0 m.2.2.2.2.2.1 ≤ 1 + 17 * (lst h0).length := by
  have : ((lst h0).countP fun x => decide (m.2.2.2.2.2.1 ≤ x)) ≤ (lst h0).length := List.countP_le_length
  unfold curP; split <;> omega
 have h5 : hndP h0 m.2.2.2.1 m.2.2.2.2.1 ≤ 15 := by
  unfold hndP
  split
  ·omega
  ·rename_i hn
   have he := p.ob.resolve_left fun h => hn h.1
   rw [e, fe_pn f0] at he
   obtain ⟨q1, q2, q3⟩ := fe_ok he
   have := (og_rng f0 q1).2.2.2.2
   have e2 : cnt h0 m.2.2.2.1 = (og h0 m.2.2.2.1).1.2.2.2.1 := rfl
   omega
 unfold pot bnd
 rw [Nat.add_mul]
 omega
end Go.Proofs.YtkjpakaidjpjgaaGreatDoor.Dfn
/- The pure law TakeTakes. -/
namespace Go.Proofs.YtkjpakaidjpjgaaGreatDoor.Dfn
open Go
set_option linter.unusedVariables false
set_option linter.unusedSimpArgs false
set_option maxRecDepth 100000
end Go.Proofs.YtkjpakaidjpjgaaGreatDoor.Dfn
/- Pure laws: what deeds keep of a heap and a list of its objects. -/
namespace Go.Proofs.YtkjpakaidjpjgaaGreatDoor.Dfn
open Go
set_option linter.unusedVariables false
set_option linter.unusedSimpArgs false
set_option maxRecDepth 100000
theorem getD_set_ne {α : Type} {l : List α} {i j : Nat} (h : i ≠ j) (x z : α) : (l.set i x).getD j z = l.getD j z := by
 simp only [List.getD, List.getElem?_set, if_neg h]
theorem zer_getD {ws : List Int} {a k : Nat} (h : a + k ≤ ws.length) (j : Nat) : (zer ws a k).getD j 0 = if a ≤ j ∧ j < a + k then 0 else ws.getD j 0 := by
 simp only [List.getD, zer_get h]
 split <;> rfl
end Go.Proofs.YtkjpakaidjpjgaaGreatDoor.Dfn
/- Pure laws: what is behind a block that was taken. -/
namespace Go.Proofs.YtkjpakaidjpjgaaGreatDoor.Dfn
open Go
set_option linter.unusedVariables false
set_option linter.unusedSimpArgs false
set_option maxRecDepth 100000
theorem good_span_of {s : Span} (hr : rightB s = true) (h0 : 0 ≤ s.2.2.1) : Good cSpan s := by
 have hf := rightB_free hr h0
 have h1 : -9223372036854775808 ≤ s.1 ∧ s.1 ≤ 9223372036854775807 ∧ -9223372036854775808 ≤ s.2.1 ∧ s.2.1 ≤ 9223372036854775807 := by
  by_cases hs : s.1 = 0
  ·rw [right_free hr hs]; decide
  ·have := right_use hr hs; omega
 exact ⟨⟨h1.1, h1.2.1⟩, ⟨h1.2.2.1, h1.2.2.2⟩, ⟨h0, by show s.2.2.1 ≤ 4294967295; omega⟩, trivial⟩
theorem setC_len (c : List (List Int)) (m k : Nat) (p : Int) : (setC c m k p).length = c.length := by unfold setC; rw [List.length_set]
theorem withP_words (h : Heap) (p : Int) (k : Nat) : (withP h p k).1 = h.1 ∧ (withP h p k).2.1.length = h.2.1.length := by
 unfold withP
 split
 ·exact ⟨rfl, by show (h.2.1.set _ _).length = _; rw [List.length_set]⟩
 ·exact ⟨rfl, rfl⟩
theorem taken_len {h : Heap} {c : List (List Int)} {m : Nat} {n : Int} {k : Nat} {p : Int} {i : Nat} (t : TakeP h c m n k p i) : (laid (withP h p k) p i n).2.1.length = h.2.1.length := by
 show ((withP h p k).2.1.set _ _).length = _
 rw [List.length_set]
 exact (withP_words h p k).2
theorem taken_at {h : Heap} {c : List (List Int)} {m : Nat} {n : Int} {k : Nat} {p : Int} {i : Nat} (t : TakeP h c m n k p i) :
  layA (withP h p k) p i / 32 = p ∧ 0 ≤ layA (withP h p k) p i ∧ layA (withP h p k) p i + cw k ≤ h.1.length ∧ (2 : Int) ≤ cw k ∧ cw k ≤ 16 := by
 have hs : (spanAt (withP h p k) p).1 ≠ 0 := by rw [t.ly.2.1]; decide
 have hib : (i : Int) < cb (spanAt (withP h p k) p).2.1 := by rw [t.cl]; exact t.ib
 obtain ⟨e1, e2, e3, l0, l1, l2⟩ := layA_facts t.hp t.ly.1 hs hib
 rw [t.cl] at l2
 have hl := t.hp.f.len
 rw [(withP_words h p k).1, (withP_words h p k).2] at hl
 have i1 := t.ip.2
 have hk := t.k4
 exact ⟨e1, l0, by omega, cw_pos (by omega) (by omega), (cw_le _).2⟩
theorem taken_word {h : Heap} {c : List (List Int)} {m : Nat} {n : Int} {k : Nat} {p : Int} {i : Nat} (t : TakeP h c m n k p i) :
  (laid (withP h p k) p i n).1.length = h.1.length ∧ (laid (withP h p k) p i n).1.getD (layA (withP h p k) p i).toNat 0 = hword k (withP h p k).2.2.1 n ∧
  ∀ j : Nat, ¬ ((layA (withP h p k) p i) ≤ j ∧ (j : Int) < layA (withP h p k) p i + cw k) → (laid (withP h p k) p i n).1.getD j 0 = h.1.getD j 0 := by
 obtain ⟨e1, l0, l1, w2, w16⟩ := taken_at t
 have hw := (withP_words h p k).1
 have hz : (layA (withP h p k) p i).toNat + (cw k).toNat ≤ (withP h p k).1.length := by rw [hw]; omega
 unfold laid
 rw [t.cl]
 refine ⟨?_, ?_, fun j hj => ?_⟩
 ·show (List.set _ _ _).length = _
  rw [List.length_set, zer_len hz, hw]
 ·show (List.set _ _ _).getD _ 0 = _
  rw [getD_set_self (by rw [zer_len hz, hw]; omega)]
 ·show (List.set _ _ _).getD _ 0 = _
  rw [getD_set_ne (by omega), zer_getD hz, if_neg (by omega), hw]
end Go.Proofs.YtkjpakaidjpjgaaGreatDoor.Dfn
/- Pure laws: worlds that the marker's turns lead to; within how many turns a cycle ends. -/
namespace Go.Proofs.YtkjpakaidjpjgaaGreatDoor.Dfn
open Go
set_option linter.unusedVariables false
set_option linter.unusedSimpArgs false
set_option maxRecDepth 100000
theorem hp_good {h : Heap} (q : HP h) : Good cHeap h := by
 have hn := q.f.n16
 have hl := q.f.len
 refine ⟨⟨by omega, fun w hw => ?_⟩, ⟨by omega, fun s hs => good_span_of (q.f.right s hs) (q.fr s hs)⟩, trivial, trivial⟩
 obtain ⟨a, b⟩ := q.f.word w hw
 have hh : ∀ x : Int, x < 18446744073709551616 → x ≤ 18446744073709551615 := fun x h => by omega
 exact ⟨a, hh w b⟩
theorem hp_formB {h : Heap} (q : HP h) : formB h = true := by
 unfold formB
 rw [Bool.and_eq_true, decide_eq_true_iff, List.all_eq_true]
 exact ⟨⟨q.f.n1, q.f.n16, q.f.len⟩, q.f.right⟩
theorem hp_turn {h : Heap} (q : HP h) : HP (turnS h) := ⟨q.f.turn, q.fr⟩
theorem hp_pn {h : Heap} (q : HP h) (S : Int → Bool) : HP (pn h S) := ⟨q.f.pn S, q.fr⟩
theorem right_open {s : Span} {k : Int} (hk : k = 1 ∨ k = 2) (h : rightB s = true) (e : s.1 ≠ 0) : rightB (k, s.2) = true := by
 unfold rightB at h ⊢
 rw [if_neg e] at h
 rw [if_neg (show ¬ ((k, s.2) : Span).1 = 0 from by show ¬ k = 0; omega)]
 simp only [decide_eq_true_eq] at h ⊢
 exact ⟨hk, h.2⟩
theorem hp_beg {h : Heap} (q : HP h) : HP (begS h) := by
 refine ⟨⟨?_, ?_, ?_, fun s hs => ?_, q.f.word⟩, fun s hs => ?_⟩
 ·show 1 ≤ (h.2.1.map dirtS).length
  rw [List.length_map]; exact q.f.n1
 ·show (h.2.1.map dirtS).length ≤ 16
  rw [List.length_map]; exact q.f.n16
 ·show h.1.length = 32 * (h.2.1.map dirtS).length
  rw [List.length_map]; exact q.f.len
 ·obtain ⟨r, hr, rfl⟩ := List.mem_map.1 hs
  have h1 := q.f.right r hr
  unfold dirtS
  split
  ·rename_i e
   exact right_open (.inr rfl) h1 (by rw [e]; decide)
  ·exact h1
 ·obtain ⟨r, hr, rfl⟩ := List.mem_map.1 hs
  have h1 := q.fr r hr
  unfold dirtS
  split <;> exact h1
theorem oneG_setSp {h : Heap} (q : HP h) {c : List (List Int)} {p : Nat} (hp : p < h.2.1.length) (hd : (h.2.1.getD p sz).1 = 2) :
  ∃ s : Span, rightB s = true ∧ 0 ≤ s.2.2.1 ∧ oneG h c p = setSp (swF h p (pgN h p)).1 (p : Int) s ∧ s.1 ≠ 2 ∧ (keptP c p → s.1 ≠ 0 ∧ s.2.1 = (h.2.1.getD p sz).2.1) := by
 obtain ⟨I, -, -⟩ := swF_ok q p (pgN h p)
 have hg : ((swF h p (pgN h p)).1.2.1.getD p sz) ∈ (swF h p (pgN h p)).1.2.1 := by
  have hl := I.sl
  rw [get_d _ _ _ (show p < (swF h p (pgN h p)).1.2.1.length by omega)]
  exact List.getElem_mem _
 obtain ⟨c1, c2⟩ := I.cl p
 unfold oneG
 split
 ·rename_i hh
  exact ⟨sz, right_sz, by show (0 : Int) ≤ 0; omega, by rw [← I.c]; rfl, by decide, fun hk => absurd hk hh.2⟩
 ·refine ⟨(1, ((swF h p (pgN h p)).1.2.1.getD p sz).2), right_open (.inl rfl) (I.hp.f.right _ hg) (by rw [c1, hd]; decide), by have := I.hp.fr _ hg; exact this, by rw [← I.c]; rfl, by show (1 : Int) ≠ 2; decide, fun _ => ⟨by show (1 : Int) ≠ 0; decide, c2⟩⟩
theorem hp_one {h : Heap} (q : HP h) {c : List (List Int)} {p : Nat} (hp : p < h.2.1.length) (hd : (h.2.1.getD p sz).1 = 2) : HP (oneG h c p) := by
 obtain ⟨s, h1, h2, e, -, -⟩ := oneG_setSp (c := c) q hp hd
 rw [e]
 exact hp_setSp (swF_ok q p (pgN h p)).1.hp _ h1 h2
theorem hp_swp {h : Heap} (q : HP h) (c : List (List Int)) : HP (swpH h c) := by
 unfold swpH
 split
 ·exact q
 ·rename_i p e
  obtain ⟨h1, h2, -⟩ := fstD_some e
  exact hp_one q h1 h2
theorem rightP_to {h g : Heap} {c : List (List Int)} (r : RightP h c) (hs : ∀ t, t < 4 * c.length → lin c t ≠ -1 → valid h (lin c t) (t % 4) → valid g (lin c t) (t % 4)) : RightP g c := by
 refine ⟨fun t ht => ?_, r.one⟩
 by_cases e : lin c t = -1
 ·exact .inl e
 ·exact .inr (hs t ht e ((r.v t ht).resolve_left e))
theorem rightP_beg {h : Heap} {c : List (List Int)} (r : RightP h c) : RightP (begS h) c := by
 refine rightP_to r fun t ht hn v => ?_
 obtain ⟨i, v1, v2⟩ := v
 have i0 := i.1
 have i1 := i.2
 have hsp : spanAt (begS h) (lin c t) = dirtS (spanAt h (lin c t)) := by
  show (h.2.1.map dirtS).getD _ sz = dirtS (h.2.1.getD _ sz)
  rw [get_d _ _ _ (by rw [List.length_map]; omega), get_d _ _ _ (show (lin c t).toNat < h.2.1.length by omega), List.getElem_map]
 refine ⟨⟨i0, by show (lin c t) < ((h.2.1.map dirtS).length : Int); rw [List.length_map]; exact i1⟩, ?_, ?_⟩
 ·rw [hsp]
  unfold dirtS
  split
  ·show (2 : Int) ≠ 0
   decide
  ·exact v1
 ·rw [hsp]
  unfold dirtS
  split <;> exact v2
theorem rightP_swp {h : Heap} (q : HP h) {c : List (List Int)} (h4 : Row4 c) (r : RightP h c) : RightP (swpH h c) c := by
 unfold swpH
 split
 ·exact r
 rename_i p e
 obtain ⟨hp, hd, -⟩ := fstD_some e
 obtain ⟨s, h1, h2, e2, -, hk⟩ := oneG_setSp (c := c) q hp hd
 obtain ⟨I, -, -⟩ := swF_ok q p (pgN h p)
 have hsl := I.sl
 rw [e2]
 refine rightP_to r fun t ht hn v => ?_
 obtain ⟨i, v1, v2⟩ := v
 have i0 := i.1
 have i1 := i.2
 have hin : inP (setSp (swF h p (pgN h p)).1 (p : Int) s) (lin c t) := ⟨i0, by show (lin c t) < ((List.set _ _ _).length : Int); rw [List.length_set]; omega⟩
 have hsp : spanAt (setSp (swF h p (pgN h p)).1 (p : Int) s) (lin c t) = if p = (lin c t).toNat then s else (swF h p (pgN h p)).1.2.1.getD (lin c t).toNat sz := by
  show (List.set _ _ _).getD _ sz = _
  rw [getD_set_i, Int.toNat_natCast]
  by_cases e3 : p = (lin c t).toNat
  ·rw [if_pos ⟨e3, by omega⟩, if_pos e3]
  ·rw [if_neg (fun hh => e3 hh.1), if_neg e3]
 refine ⟨hin, ?_, ?_⟩
 ·rw [hsp]
  by_cases e3 : p = (lin c t).toNat
  ·rw [if_pos e3]
   exact (hk ((kept_lin h4 _).2 ⟨t, ht, by omega⟩)).1
  ·rw [if_neg e3, (I.cl _).1]
   exact v1
 ·rw [hsp]
  by_cases e3 : p = (lin c t).toNat
  ·rw [if_pos e3, (hk ((kept_lin h4 _).2 ⟨t, ht, by omega⟩)).2, e3]
   exact v2
  ·rw [if_neg e3, (I.cl _).2]
   exact v2
theorem cnt_map {l : List Span} {k : List Span} (hl : l.length = k.length) (h : ∀ i, (l.getD i sz).1 = (k.getD i sz).1) : (l.countP fun s => decide (s.1 = 2)) = k.countP fun s => decide (s.1 = 2) := by
 have e : l.map (fun s => s.1) = k.map (fun s => s.1) := by
  refine List.ext_getElem (by rw [List.length_map, List.length_map, hl]) fun i h1 h2 => ?_
  rw [List.length_map] at h1 h2
  have := h i
  rw [get_d _ _ _ h1, get_d _ _ _ h2] at this
  rw [List.getElem_map, List.getElem_map]
  exact this
 have f : ∀ l : List Span, (l.countP fun s => decide (s.1 = 2)) = (l.map (fun s => s.1)).countP fun n => decide (n = 2) := fun l => by rw [List.countP_map]; rfl
 rw [f, f, e]
theorem cnt_set : ∀ (l : List Span) (i : Nat) (s : Span), i < l.length → (l.getD i sz).1 = 2 → s.1 ≠ 2 → ((l.set i s).countP fun s => decide (s.1 = 2)) + 1 = l.countP fun s => decide (s.1 = 2)
 | [], _, _, h, _, _ => absurd h (by simp)
 | a :: l, 0, s, _, h1, h2 => by
  have h1 : a.1 = 2 := h1
  rw [List.set_cons_zero, List.countP_cons, List.countP_cons, if_neg (by simpa using h2), if_pos (by simpa using h1)]
 | a :: l, i + 1, s, h, h1, h2 => by
  have := cnt_set l i s (by simpa using h) h1 h2
  rw [List.set_cons_succ, List.countP_cons, List.countP_cons]
  omega
theorem dcnt_swp {h : Heap} (q : HP h) (c : List (List Int)) (hn : dcnt (swpH h c) ≠ 0) : dcnt (swpH h c) + 1 ≤ dcnt h := by
 cases e : fstD h with
 | none =>
  unfold swpH at hn
  rw [e] at hn
  exact absurd (dcnt_zero (fstD_none e)) hn
 | some p =>
  obtain ⟨hp, hd, -⟩ := fstD_some e
  obtain ⟨s, -, -, e2, hs, -⟩ := oneG_setSp (c := c) q hp hd
  obtain ⟨I, -, -⟩ := swF_ok q p (pgN h p)
  have hsl := I.sl
  unfold swpH
  rw [e]
  show dcnt (oneG h c p) + 1 ≤ dcnt h
  rw [e2]
  unfold dcnt setSp
  have h1 := cnt_set (swF h p (pgN h p)).1.2.1 p s (by omega) (by rw [(I.cl p).1]; exact hd) hs
  have h2 := cnt_map hsl (fun i => (I.cl i).1)
  simp only [Int.toNat_natCast]
  omega
theorem dcnt_le {h : Heap} (q : HP h) : dcnt h ≤ 16 := by
 have := q.f.n16
 have : dcnt h ≤ h.2.1.length := List.countP_le_length
 omega
theorem ok_even {h : Heap} (f : FormP h) {n : Nat} (e : okA h n = true) : n % 2 = 0 := by
 obtain ⟨p, i, hp, hs, hi, ha, -⟩ := fnd_blkX f (og_ok e).1
 obtain ⟨w, b, hw, hb, ec, b16, hB⟩ := blk_of f hp
 have B := hB i (by omega)
 have h1 := B.a_
 have h2 : n = 32 * p + i * w := by omega
 rcases B.wb with ⟨rfl, -⟩ | ⟨rfl, -⟩ | ⟨rfl, -⟩ | ⟨rfl, -⟩ <;> omega
theorem lstN_half {h : Heap} (f : FormP h) : ∀ n, (lstN h n).length ≤ (n + 1) / 2
 | 0 => by simp [lstN]
 | n + 1 => by
  have := lstN_half f n
  rw [lstN_succ]
  split
  ·rename_i e
   have := ok_even f e
   rw [List.length_append, List.length_singleton]
   omega
  ·omega
theorem lst_half {h : Heap} (f : FormP h) : (lst h).length ≤ h.1.length / 2 := by
 have h1 := lstN_half f h.1.length
 have h2 := f.len
 unfold lst
 omega
end Go.Proofs.YtkjpakaidjpjgaaGreatDoor.Dfn
/- Pure laws: the marker's turns end a cycle. -/
namespace Go.Proofs.YtkjpakaidjpjgaaGreatDoor.Dfn
open Go
set_option linter.unusedVariables false
set_option linter.unusedSimpArgs false
set_option maxRecDepth 100000
structure IW (w : WrldT) : Prop where
 p : HP w.2.1
 ms : MsP w.2.2.1
 hv : ∀ v : Val, v ∈ heldL w.2.2.1 → -9223372036854775808 ≤ v.2.1 ∧ v.2.1 < 9223372036854775808
 h4 : Row4 (cachesW w.2.2.1)
 hc : mayP w.1
 sp : (w.2.1.2.1.length : Int) = w.1.1
 ml : (w.2.2.1.length : Int) = w.1.2.1
 st : w.2.2.1.all (stkB w) = true
 rt : RightP w.2.1 (cachesW w.2.2.1)
 ph : 0 ≤ w.2.2.2.2.1 ∧ w.2.2.2.2.1 ≤ 2
 mkw : w.2.2.2.2.1 = 1 → MkP w.2.1 w.2.2.2.1 ∧ (w.2.2.2.1.2.1.length : Int) = w.2.2.1.length
 mr : MrP w.2.2.2.1
theorem IW.gw {w : WrldT} (I : IW w) : GW w := ⟨hp_good I.p, I.p.f.n16, I.ms, I.mr⟩
theorem IW.form {w : WrldT} (I : IW w) : formW w = true := by
 unfold formW
 simp only [Bool.and_eq_true, decide_eq_true_eq]
 refine ⟨I.hc, hp_formB I.p, I.sp, I.ml, I.ph, I.st, I.rt, ?_⟩
 unfold mkB
 by_cases e : w.2.2.2.2.1 = 1
 ·obtain ⟨m, l⟩ := I.mkw e
  rw [if_pos e, m.rtB, decide_eq_true l]
  rfl
 ·rw [if_neg e]
theorem IW.of {w : WrldT} (F : WF w) (hf : formW w = true) : IW w := by
 unfold formW at hf
 simp only [Bool.and_eq_true, decide_eq_true_eq] at hf
 refine ⟨F.p, F.q.g.ms, F.q.hv, F.h4, F.hc, hf.2.2.1, hf.2.2.2.1, hf.2.2.2.2.2.1, hf.2.2.2.2.2.2.1, F.ph, fun e => ⟨F.hm e, ?_⟩, F.q.g.mr⟩
 have h2 := hf.2.2.2.2.2.2.2
 unfold mkB at h2
 rw [if_pos e] at h2
 simp only [Bool.and_eq_true, decide_eq_true_eq] at h2
 exact h2.2
theorem MkP.mr {h : Heap} {m : MarkT} (f : FormP h) (p : MkP h m) : MrP m := by
 refine ⟨by have := p.g.len; have := p.g.r16; omega, by have := p.bl; omega, fun g hg => by have := (p.b g hg).len; have := (p.b g hg).r16; omega, ?_⟩
 rcases p.ob with ⟨e, -⟩ | e
 ·rw [e]; decide
 ·have hb := (og_ok (fe_ok e).1).1
  have h1 := fndB_rng hb
  have h2 := fnd_room f hb
  have h3 := f.n16
  have h4 := f.len
  omega
theorem hand_bs (h : Heap) (m : MarkT) (a : Int) : (hand h m a).2.1 = m.2.1 := by
 unfold hand
 split <;> rfl
theorem Stp.blen {h h' : Heap} {m m' : MarkT} (s : Stp h m h' m') : m'.2.1.length = m.2.1.length := by
 cases s with
 | fld _ _ _ => rfl
 | pop => rw [hand_bs]
 | row => rw [hand_bs]; simp
 | root _ => rfl
 | cur _ _ _ _ => rw [hand_bs]
 | noc _ _ => rfl
 | ovr => rfl
theorem mk_begin {h : Heap} (f : FormP h) {ms : List MutT} (M : MsP ms) (hv : ∀ v : Val, v ∈ heldL ms → -9223372036854775808 ≤ v.2.1 ∧ v.2.1 < 9223372036854775808) {g b : Int} (g0 : 0 ≤ g) (g1 : g ≤ 16) (b0 : 0 ≤ b) (b1 : b ≤ 16) :
  MkP (turnS h) (markM g b ms.length (heldL ms ++ pendL h ms)) := by
 have hl := heldL_len M.st
 have hp := pendL_len h ms
 have hm := M.len
 refine ⟨⟨g0, g1, g0⟩, fun a ha => (by cases ha), fun x hx => ?_, fun x hx a ha => ?_, ?_, ?_, fun v hv2 => ?_, ?_, .inl ⟨rfl, rfl⟩⟩
 ·have e : x = (b, [], ()) := List.eq_of_mem_replicate hx
  rw [e]
  exact ⟨b0, b1, b0⟩
 ·have e : x = (b, [], ()) := List.eq_of_mem_replicate hx
  rw [e] at ha
  cases ha
 ·show (List.replicate _ _).length ≤ 10
  rw [List.length_replicate]
  exact hm
 ·show (heldL ms ++ pendL h ms).length ≤ 1000
  rw [List.length_append]
  omega
 ·rcases List.mem_append.1 (show v ∈ heldL ms ++ pendL h ms from hv2) with h1 | h1
  ·exact hv v h1
  ·unfold pendL at h1
   obtain ⟨m, -, h2⟩ := List.mem_flatMap.1 h1
   unfold pend1 at h2
   split at h2
   ·rw [List.mem_singleton.1 h2]
    exact fldV_rng f _ _
   ·cases h2
 ·show (-1 : Int) ≤ -1 ∧ (-1 : Int) ≤ _
  omega
theorem nit_begin (g b : Int) (n : Nat) (vs : List Val) : nit (markM g b n vs) = 0 := by
 simp [nit, markM]
def cycN (k : Nat) : Nat := (k + 3) * (17 * k + 8) + 300
def wantN (w : WrldT) : Nat := if w.2.2.2.2.2.1 = true then cycN (w.2.1.1.length / 2) else 0
def Pot (w : WrldT) (n : Nat) : Prop :=
 (w.2.2.2.2.1 = 0 ∧ wantN w ≤ n) ∨ (w.2.2.2.2.1 = 1 ∧ ∃ h0 S, FormP h0 ∧ w.2.1 = pn h0 S ∧ pot h0 w.2.1 w.2.2.2.1 + 20 + wantN w ≤ n) ∨ (w.2.2.2.2.1 = 2 ∧ dcnt w.2.1 + 1 + wantN w ≤ n)
theorem want_eq {w a : WrldT} (h1 : a.2.2.2.2.2.1 = w.2.2.2.2.2.1) (h2 : a.2.1.1.length = w.2.1.1.length) : wantN a = wantN w := by
 unfold wantN
 rw [h1, h2]
theorem IW.turn {w : WrldT} (I : IW w) {n : Nat} (P : Pot w (n + 1)) (hne : ¬ (w.2.2.2.2.1 = 0 ∧ w.2.2.2.2.2.1 = false)) :
  ∃ (a : WrldT) (x : Int), mkrW w = (a, x, ()) ∧ x ≠ 0 ∧ IW a ∧ Pot a n ∧ a.2.2.2.2.2.2.2.1.length ≤ w.2.2.2.2.2.2.2.1.length + 1 := by
 have f := I.p.f
 unfold mkrW
 rcases P with ⟨e, hP⟩ | ⟨e, h0, S, f0, eh, hP⟩ | ⟨e, hP⟩
 ·have hw : w.2.2.2.2.2.1 = true := by
   cases hw : w.2.2.2.2.2.1 with
   | false => exact absurd ⟨e, hw⟩ hne
   | true => rfl
  rw [if_pos e, if_pos hw]
  obtain ⟨c1, c2, c3, c4⟩ := I.hc.2.2.2.2.2.2
  have mb := mk_begin f I.ms I.hv (g := w.1.2.2.2.1) (b := w.1.2.2.2.2.1) c1 c2 c3 (by omega)
  refine ⟨_, _, rfl, by decide, ⟨hp_turn I.p, I.ms, I.hv, I.h4, I.hc, I.sp, I.ml, I.st, rightP_to I.rt fun t _ _ v => v, by show (0 : Int) ≤ 1 ∧ (1 : Int) ≤ 2; decide, fun _ => ⟨mb, ?_⟩, mb.mr f.turn⟩, .inr (.inl ⟨rfl, turnS w.2.1, fun _ => false, f.turn, pn_none.symm, ?_⟩), Nat.le_succ _⟩
  ·show ((List.replicate _ _).length : Int) = _
   rw [List.length_replicate]
  ·have h1 := pot_le f.turn (S := fun _ => false) pn_none.symm mb
   have h2 := lst_half f.turn
   have h3 : (turnS w.2.1).1.length = w.2.1.1.length := rfl
   rw [h3] at h2
   have hl := heldL_len I.ms.st
   have hp := pendL_len w.2.1 w.2.2.1
   have hm := I.ms.len
   unfold wantN cycN at hP
   rw [if_pos hw] at hP
   unfold bnd at h1
   rw [nit_begin] at h1
   have h4 : ((lst (turnS w.2.1)).length + 3) * (17 * (lst (turnS w.2.1)).length + 8) ≤ (w.2.1.1.length / 2 + 3) * (17 * (w.2.1.1.length / 2) + 8) := Nat.mul_le_mul (by omega) (by omega)
   have h5 : (markM w.1.2.2.2.1 w.1.2.2.2.2.1 w.2.2.1.length (heldL w.2.2.1 ++ pendL w.2.1 w.2.2.1)).2.2.1.length = (heldL w.2.2.1).length + (pendL w.2.1 w.2.2.1).length := List.length_append
   show pot (turnS w.2.1) (turnS w.2.1) (markM w.1.2.2.2.1 w.1.2.2.2.2.1 w.2.2.1.length (heldL w.2.2.1 ++ pendL w.2.1 w.2.2.1)) + 20 + (if false = true then _ else 0) ≤ n
   rw [if_neg (by decide)]
   omega
 ·rw [if_neg (by omega), if_pos e]
  obtain ⟨mp, ml⟩ := I.mkw e
  rcases stp_cases f mp with ⟨es, -⟩ | ⟨h', m', es, s⟩
  ·rw [es]
   have hb := hp_beg I.p
   have hd := dcnt_le hb
   refine ⟨_, _, if_pos rfl, by decide, ⟨hb, I.ms, I.hv, I.h4, I.hc, ?_, I.ml, I.st, rightP_beg I.rt, by show (0 : Int) ≤ 2 ∧ (2 : Int) ≤ 2; decide, fun h => absurd h (by show ¬ (2 : Int) = 1; decide), ⟨by show (0 : Nat) ≤ _; omega, by show (0 : Nat) ≤ _; omega, fun g hg => (by cases hg), by show (-9223372036854775808 : Int) ≤ 0 ∧ (0 : Int) < 9223372036854775808; decide⟩⟩, .inr (.inr ⟨rfl, ?_⟩), ?_⟩
   ·show ((w.2.1.2.1.map dirtS).length : Int) = _
    rw [List.length_map]
    exact I.sp
   ·show dcnt (begS w.2.1) + 1 + wantN w ≤ n
    omega
   ·show (w.2.2.2.2.2.2.2.1 ++ [tellW w]).length ≤ _
    rw [List.length_append, List.length_singleton]
    omega
  ·rw [es]
   obtain ⟨T, eT⟩ := s.paint
   have hp := s.pot f0 eh
   have mk := s.mk f mp
   have bl := s.blen
   subst eT
   have hb := hp_pn I.p T
   refine ⟨_, _, if_neg (by simp), by decide, ⟨hb, I.ms, I.hv, I.h4, I.hc, I.sp, I.ml, I.st, rightP_to I.rt fun t _ _ v => v, I.ph, fun _ => ⟨mk, by rw [← ml, ← bl]⟩, mk.mr hb.f⟩, .inr (.inl ⟨e, h0, _, f0, by show pn w.2.1 T = _; rw [eh, pn_pn f0], ?_⟩), Nat.le_succ _⟩
   have hw := want_eq (w := w) (a := (w.1, pn w.2.1 T, w.2.2.1, m', w.2.2.2.2)) rfl (pn_len _ _)
   show pot h0 (pn w.2.1 T) m' + 20 + wantN (w.1, pn w.2.1 T, w.2.2.1, m', w.2.2.2.2) ≤ n
   omega
 ·rw [if_neg (by omega), if_neg (by omega), if_pos e]
  obtain ⟨l1, l2⟩ := swpH_len I.p (cachesW w.2.2.1)
  have hb := hp_swp I.p (cachesW w.2.2.1)
  have rt := rightP_swp I.p I.h4 I.rt
  unfold swpW
  rw [if_pos e]
  by_cases hd : dcnt (swpH w.2.1 (cachesW w.2.2.1)) = 0
  ·rw [if_pos hd]
   refine ⟨_, _, rfl, by decide, ⟨hb, I.ms, I.hv, I.h4, I.hc, by rw [l1]; exact I.sp, I.ml, I.st, rt, by show (0 : Int) ≤ 0 ∧ (0 : Int) ≤ 2; decide, fun h => absurd h (by show ¬ (0 : Int) = 1; decide), I.mr⟩, .inl ⟨rfl, ?_⟩, Nat.le_succ _⟩
   have hw := want_eq (w := w) (a := (w.1, swpH w.2.1 (cachesW w.2.2.1), w.2.2.1, w.2.2.2.1, 0, w.2.2.2.2.2)) rfl l2
   omega
  ·rw [if_neg hd]
   have h3 := dcnt_swp I.p _ hd
   refine ⟨_, _, rfl, by decide, ⟨hb, I.ms, I.hv, I.h4, I.hc, by rw [l1]; exact I.sp, I.ml, I.st, rt, I.ph, fun h => absurd (show w.2.2.2.2.1 = 1 from h) (by omega), I.mr⟩, .inr (.inr ⟨e, ?_⟩), Nat.le_succ _⟩
   have hw := want_eq (w := w) (a := (w.1, swpH w.2.1 (cachesW w.2.2.1), w.2.2)) rfl l2
   show dcnt (swpH w.2.1 (cachesW w.2.2.1)) + 1 + wantN (w.1, swpH w.2.1 (cachesW w.2.2.1), w.2.2) ≤ n
   omega
end Go.Proofs.YtkjpakaidjpjgaaGreatDoor.Dfn
/- Pure laws: of a filled heap what is used is the sum of its objects' words. -/
namespace Go.Proofs.YtkjpakaidjpjgaaGreatDoor.Dfn
open Go
set_option linter.unusedVariables false
set_option linter.unusedSimpArgs false
set_option maxRecDepth 100000
def FilP (h : Heap) : Prop := ∀ p i : Nat, p < h.2.1.length → stP h p ≠ 0 → i < pgN h p → okA h (blA h p i) = !freB h p i ∧ (okA h (blA h p i) = true → (og h (blA h p i)).1.2.2.1 = (h.2.1.getD p sz).2.1)
theorem okA_zero0 {h : Heap} {a : Int} (hz0 : h.1.getD a.toNat 0 = 0) : okA h a = false := by
 unfold okA og
 rw [hz0, show hok 0 = false by decide]
 simp only [Bool.and_false, Bool.false_and, Bool.false_eq_true, if_false]
end Go.Proofs.YtkjpakaidjpjgaaGreatDoor.Dfn
/- Pure laws: a block freed: what is left. -/
namespace Go.Proofs.YtkjpakaidjpjgaaGreatDoor.Dfn
open Go
set_option linter.unusedVariables false
set_option linter.unusedSimpArgs false
set_option maxRecDepth 100000
structure BlkF (g : Heap) (p i w : Nat) : Prop where
 hp : p < g.2.1.length
 hs : stP g p ≠ 0
 hi : i < pgN g p
 w_ : pgW g p = w
 cw_ : cw (g.2.1.getD p sz).2.1 = w
 cb_ : cb (g.2.1.getD p sz).2.1 = pgN g p
 a_ : blA g p i = 32 * p + i * w
 in_ : i * w + w ≤ 32
 wb : w = 2 ∨ w = 4 ∨ w = 8 ∨ w = 16
 le : pgN g p ≤ 16
theorem blkF_of {g : Heap} (f : FormP g) {p i : Nat} (hp : p < g.2.1.length) (hs : stP g p ≠ 0) (hi : i < pgN g p) : ∃ w, BlkF g p i w := by
 obtain ⟨w, b, hw, hb, ec, b16, hB⟩ := blk_of f hp
 have B := hB i (by omega)
 refine ⟨w, hp, hs, hi, hw, B.cw_, by rw [ec, hb], B.a_, B.in_, ?_, by omega⟩
 rcases B.wb with ⟨e, -⟩ | ⟨e, -⟩ | ⟨e, -⟩ | ⟨e, -⟩ <;> omega
theorem blk_page {g : Heap} {p i w : Nat} (B : BlkF g p i w) : (((blA g p i : Nat) : Int) / 32).toNat = p := by
 have h1 := B.a_
 have h2 := B.in_
 rcases B.wb with rfl | rfl | rfl | rfl <;> omega
theorem blk_span {g : Heap} {p i w : Nat} (B : BlkF g p i w) : spanOf g (blA g p i) = g.2.1.getD p sz := by
 unfold spanOf
 rw [blk_page B]
theorem blk_idx {g : Heap} {p i w : Nat} (B : BlkF g p i w) : (blkI g (blA g p i)).toNat = i ∧ blkI g (blA g p i) = i := by
 have h1 := B.a_
 have h2 := B.in_
 unfold blkI
 rw [blk_span B, B.cw_]
 rcases B.wb with rfl | rfl | rfl | rfl <;> omega
theorem freed_blk {g : Heap} {p i w : Nat} (B : BlkF g p i w) : freed g (blA g p i) = (zer g.1 (blA g p i) w, g.2.1.set p ((g.2.1.getD p sz).1, (g.2.1.getD p sz).2.1, xr (g.2.1.getD p sz).2.2.1 i, ()), g.2.2) := by
 unfold freed
 rw [blk_span B, blk_page B, (blk_idx B).1, B.cw_]
 rfl
theorem freed_span {g : Heap} {p i w : Nat} (B : BlkF g p i w) (r : Nat) : (freed g (blA g p i)).2.1.getD r sz = if p = r then ((g.2.1.getD p sz).1, (g.2.1.getD p sz).2.1, xr (g.2.1.getD p sz).2.2.1 i, ()) else g.2.1.getD r sz := by
 have hp := B.hp
 rw [freed_blk B]
 show (List.set _ _ _).getD _ _ = _
 rw [getD_set_i]
 by_cases e : p = r
 ·rw [if_pos ⟨e, by omega⟩, if_pos e]
 ·rw [if_neg (fun hh => e hh.1), if_neg e]
theorem freed_cl {g : Heap} {p i w : Nat} (B : BlkF g p i w) (r : Nat) : ((freed g (blA g p i)).2.1.getD r sz).1 = (g.2.1.getD r sz).1 ∧ ((freed g (blA g p i)).2.1.getD r sz).2.1 = (g.2.1.getD r sz).2.1 := by
 rw [freed_span B]
 split
 ·rename_i e
  rw [← e]
  exact ⟨rfl, rfl⟩
 ·exact ⟨rfl, rfl⟩
theorem freed_fnd {g : Heap} {p i w : Nat} (B : BlkF g p i w) (b : Int) : fndB (freed g (blA g p i)) b = fndB g b := by
 obtain ⟨h1, h2⟩ := freed_cl B (b / 32).toNat
 have hl : (freed g (blA g p i)).2.1.length = g.2.1.length := by rw [freed_blk B]; exact List.length_set
 unfold fndB spanOf
 rw [h1, h2, hl]
theorem og_else {g : Heap} {b : Int} (e : okA g b = false) : og g b = (hz, false, ()) := by
 unfold okA og at *
 split at e
 ·cases e
 ·rename_i h
  rw [if_neg h]
theorem og_fnd {g g' : Heap} {b : Int} (h1 : fndB g' b = fndB g b) (h2 : fndB g b = true → g'.1.getD b.toNat 0 = g.1.getD b.toNat 0) : og g' b = og g b := by
 cases e : fndB g b with
 | false =>
  unfold og
  rw [h1, e]
  simp only [Bool.false_and, Bool.false_eq_true, if_false]
 | true =>
  unfold og
  rw [h1, h2 e]
theorem freed_og {g : Heap} (q : HP g) {p i w : Nat} (B : BlkF g p i w) (b : Int) : og (freed g (blA g p i)) b = if b = blA g p i then (hz, false, ()) else og g b := by
 have ha := B.a_
 have hin := B.in_
 have hl := q.f.len
 have hp := B.hp
 have hw : ∀ j, (freed g (blA g p i)).1.getD j 0 = if blA g p i ≤ j ∧ j < blA g p i + w then 0 else g.1.getD j 0 := fun j => by
  rw [freed_blk B]
  exact zer_getD (by omega) j
 have w0 : 0 < w := by rcases B.wb with rfl | rfl | rfl | rfl <;> decide
 by_cases e : b = blA g p i
 ·rw [if_pos e]
  refine og_else (okA_zero0 ?_)
  rw [e, hw, Int.toNat_natCast, if_pos ⟨Nat.le_refl _, by omega⟩]
 ·rw [if_neg e]
  refine og_fnd (freed_fnd B b) fun hb => ?_
  rw [hw, if_neg]
  rintro ⟨c1, c2⟩
  obtain ⟨p', i', hp', hs', hi', hb', -⟩ := fnd_blkX q.f hb
  obtain ⟨w', B'⟩ := blkF_of q.f hp' hs' hi'
  have ha' := B'.a_
  have hin' := B'.in_
  have e2 : p' = p := by omega
  subst e2
  have e3 : w' = w := by have := B.w_; have := B'.w_; omega
  subst e3
  have e4 : i' = i := by rcases B.wb with rfl | rfl | rfl | rfl <;> omega
  subst e4
  exact e hb'.symm
theorem freed_fil {g : Heap} (q : HP g) (F : FilP g) {p i w : Nat} (B : BlkF g p i w) (hu : freB g p i = false) : FilP (freed g (blA g p i)) := by
 intro r k hr hs hk
 have hl : (freed g (blA g p i)).2.1.length = g.2.1.length := by rw [freed_blk B]; exact List.length_set
 obtain ⟨c1, c2⟩ := freed_cl B r
 have hst : stP (freed g (blA g p i)) r = stP g r := c1
 have hpn : pgN (freed g (blA g p i)) r = pgN g r := by unfold pgN; rw [c2]
 have hbl : blA (freed g (blA g p i)) r k = blA g r k := by
  show 32 * r + k * (cw ((freed g (blA g p i)).2.1.getD r sz).2.1).toNat = _
  rw [c2]
  rfl
 rw [hl] at hr
 rw [hst] at hs
 rw [hpn] at hk
 obtain ⟨f1, f2⟩ := F r k hr hs hk
 obtain ⟨w', B'⟩ := blkF_of q.f hr hs hk
 have hm : (g.2.1.getD p sz) ∈ g.2.1 := by rw [get_d _ _ _ B.hp]; exact List.getElem_mem _
 have h0 := q.fr _ hm
 have hfre : freB (freed g (blA g p i)) r k = if p = r ∧ k = i then true else freB g r k := by
  unfold freB
  rw [freed_span B]
  by_cases e : p = r
  ·subst e
   rw [if_pos rfl]
   show bit (xr _ _) k = _
   rw [xr_bit h0]
   by_cases e2 : k = i
   ·subst e2
    have hu' : bit (g.2.1.getD p sz).2.2.1 k = false := hu
    rw [if_pos rfl, if_pos ⟨rfl, rfl⟩, hu']
    rfl
   ·rw [if_neg e2, if_neg (fun hh => e2 hh.2)]
  ·rw [if_neg e, if_neg (fun hh => e hh.1)]
 have hne : (p = r ∧ k = i) ∨ (blA g r k : Int) ≠ blA g p i := by
  by_cases e : p = r ∧ k = i
  ·exact .inl e
  ·refine .inr fun h => e ?_
   have a1 := B.a_
   have a2 := B'.a_
   have i1 := B.in_
   have i2 := B'.in_
   have w0 : 0 < w := by rcases B.wb with rfl | rfl | rfl | rfl <;> decide
   have w1 : 0 < w' := by rcases B'.wb with rfl | rfl | rfl | rfl <;> decide
   have e2 : p = r := by omega
   subst e2
   have e3 : w' = w := by have := B.w_; have := B'.w_; omega
   subst e3
   refine ⟨rfl, ?_⟩
   rcases B.wb with rfl | rfl | rfl | rfl <;> omega
 rw [hbl, hfre, c2]
 unfold okA at f1 f2 ⊢
 rw [freed_og q B]
 rcases hne with ⟨rfl, rfl⟩ | hne
 ·rw [if_pos rfl, if_pos ⟨rfl, rfl⟩]
  exact ⟨rfl, fun h => by cases h⟩
 ·rw [if_neg hne, if_neg (fun hh => hne (by rw [← hh.1, hh.2]))]
  exact ⟨f1, f2⟩
end Go.Proofs.YtkjpakaidjpjgaaGreatDoor.Dfn
/- Pure laws: a page swept: what is left. -/
namespace Go.Proofs.YtkjpakaidjpjgaaGreatDoor.Dfn
open Go
set_option linter.unusedVariables false
set_option linter.unusedSimpArgs false
set_option maxRecDepth 100000
structure SwR (h g : Heap) : Prop where
 hp : HP g
 fl : FilP g
 wl : g.1.length = h.1.length
 sl : g.2.1.length = h.2.1.length
 c : g.2.2 = h.2.2
 og : ∀ b, og g b = og h b ∨ (og g b = (hz, false, ()) ∧ okA h b = true ∧ bk h b = false)
theorem bk_congr {h g : Heap} {b : Int} (e : og g b = og h b) (c : g.2.2 = h.2.2) : bk g b = bk h b := by
 unfold bk
 rw [e, c]
theorem ok_congr {h g : Heap} {b : Int} (e : og g b = og h b) : okA g b = okA h b := by
 unfold okA
 rw [e]
theorem SwR.trans {h g k : Heap} (R : SwR h g) (S : SwR g k) : SwR h k := by
 refine ⟨S.hp, S.fl, S.wl.trans R.wl, S.sl.trans R.sl, S.c.trans R.c, fun b => ?_⟩
 rcases S.og b with e | ⟨e, e1, e2⟩
 ·rw [e]
  exact R.og b
 ·rcases R.og b with e3 | ⟨e3, -, -⟩
  ·rw [ok_congr e3] at e1
   rw [bk_congr e3 R.c] at e2
   exact .inr ⟨e, e1, e2⟩
  ·unfold okA at e1
   rw [e3] at e1
   cases e1
theorem free_of {g : Heap} (q : HP g) (F : FilP g) {p i w : Nat} (B : BlkF g p i w) (ho : okA g (blA g p i) = true) : freeP g (blA g p i) ∧ freB g p i = false := by
 have hu : freB g p i = false := by
  have := (F p i B.hp B.hs B.hi).1
  rw [ho] at this
  simpa using this.symm
 have hm : (g.2.1.getD p sz) ∈ g.2.1 := by rw [get_d _ _ _ B.hp]; exact List.getElem_mem _
 refine ⟨⟨(og_ok ho).1, ?_⟩, hu⟩
 have hi := B.hi
 rw [blk_span B, (blk_idx B).2]
 exact ⟨(right_use (q.f.right _ hm) B.hs).1, by omega, by rw [B.cb_]; omega, by rw [Int.toNat_natCast]; exact hu⟩
theorem SwR.freed {g : Heap} (q : HP g) (F : FilP g) {p i w : Nat} (B : BlkF g p i w) (ho : okA g (blA g p i) = true) (hb : bk g (blA g p i) = false) : SwR g (freed g (blA g p i)) := by
 obtain ⟨fp, hu⟩ := free_of q F B ho
 have hin := B.in_
 have ha := B.a_
 have hp := B.hp
 have hl := q.f.len
 refine ⟨freed_hp q fp, freed_fil q F B hu, ?_, ?_, by rw [freed_blk B], fun b => ?_⟩
 ·rw [freed_blk B]
  exact zer_len (by omega)
 ·rw [freed_blk B]
  exact List.length_set
 ·rw [freed_og q B]
  by_cases e : b = blA g p i
  ·rw [if_pos e, e]
   exact .inr ⟨rfl, ho, hb⟩
  ·rw [if_neg e]
   exact .inl rfl
end Go.Proofs.YtkjpakaidjpjgaaGreatDoor.Dfn
/- Pure laws: pages' states turned; a sweep; all sweeps. -/
namespace Go.Proofs.YtkjpakaidjpjgaaGreatDoor.Dfn
open Go
set_option linter.unusedVariables false
set_option linter.unusedSimpArgs false
set_option maxRecDepth 100000
end Go.Proofs.YtkjpakaidjpjgaaGreatDoor.Dfn
/- Pure laws: one sweep. -/
namespace Go.Proofs.YtkjpakaidjpjgaaGreatDoor.Dfn
open Go
set_option linter.unusedVariables false
set_option linter.unusedSimpArgs false
set_option maxRecDepth 100000
end Go.Proofs.YtkjpakaidjpjgaaGreatDoor.Dfn
/- Pure laws: object.Set and the reference's Set. -/
namespace Go.Proofs.YtkjpakaidjpjgaaGreatDoor.Dfn
open Go
set_option linter.unusedVariables false
set_option linter.unusedSimpArgs false
set_option maxRecDepth 100000
def mayB (v : Val) : Bool := if v.1 = 0 then decide (v.2.1 = 0) else if v.1 = 1 then decide (v.2.1 ≥ 0) else if v.1 = 2 then decide (v.2.1 ≥ 0) && decide (v.2.1 < 9223372036854775807) else false
theorem may1_eq (v : Val) : r01_May (v, ()) = some (mayB v, ()) := by
 simp only [r01_May, r01_May_r, mayB, ibeq, Bool.cond_decide]
 split
 ·rfl
 ·split
  ·rfl
  ·split
   ·split
    ·rename_i e; simp [e]
    ·rename_i e; simp [e]
   ·rfl
theorem may_eq (v : Val) : word_May (v, ()) = some (mayB v, ()) := by
 simp only [word_May, word_May_r, mayB, ibeq, Bool.cond_decide]
 split
 ·rfl
 ·split
  ·rfl
  ·split
   ·split
    ·rename_i e; simp [e]
    ·rename_i e; simp [e]
   ·rfl
def putV (v : Val) : Int := if v.1 = 0 then 0 else if v.1 = 1 then 2 * v.2.1 + 1 else 2 * (v.2.1 + 1)
theorem or_one (m : Nat) : 2 * m ||| 1 = 2 * m + 1 := by
 have h1 : (2 * m ||| 1) / 2 = m := by rw [Nat.or_div_two]; simp
 have h2 : (2 * m ||| 1) % 2 = 1 := by rw [Nat.or_mod_two_eq_one]; simp
 omega
theorem shl1 {n : Int} (h0 : 0 ≤ n) (h1 : n < 9223372036854775808) : shiftI true .u64 n 1 = 2 * n := by
 show IntKind.u64.wrap (n * 2 ^ (min (Int.toNat 1) 64)) = 2 * n
 have := wu64_id (n := n * 2) (by omega) (by omega)
 have e : (2 : Int) ^ (min (Int.toNat 1) 64) = 2 := by decide
 rw [e]
 exact this.trans (by omega)
theorem or1 {n : Int} (h0 : 0 ≤ n) (h1 : n < 9223372036854775808) : bitsI .or .u64 (2 * n) 1 = 2 * n + 1 := by
 obtain ⟨m, rfl⟩ := Int.eq_ofNat_of_zero_le h0
 show IntKind.u64.wrap (((BitVec.ofInt 64 (2 * (m : Int)) ||| BitVec.ofInt 64 1).toNat : Nat) : Int) = 2 * (m : Int) + 1
 have e : (BitVec.ofInt 64 (2 * (m : Int)) ||| BitVec.ofInt 64 1).toNat = 2 * m + 1 := by
  rw [BitVec.toNat_or, BitVec.toNat_ofInt, BitVec.toNat_ofInt]
  have e1 : ((2 * (m : Int)) % (2 ^ 64 : Nat)).toNat = 2 * m := by omega
  have e2 : ((1 : Int) % (2 ^ 64 : Nat)).toNat = 1 := by decide
  rw [e1, e2, or_one]
 rw [e]
 exact wu64_id (by omega) (by omega)
theorem put_eq {v : Val} (hv : mayB v = true) (hr : v.2.1 ≤ 9223372036854775807) : word_Put (v, ()) = some (putV v, true, ()) := by
 simp only [word_Put, word_Put_r, may_eq, hv, Option.bind_some, Bool.not_true, cond_false, ibeq, Bool.cond_decide, putV]
 unfold mayB at hv
 by_cases e0 : v.1 = 0
 ·rw [if_neg (by omega), if_neg (by omega), if_pos e0]
 ·rw [if_neg e0] at hv ⊢
  by_cases e1 : v.1 = 1
  ·rw [if_pos e1] at hv ⊢
   rw [if_pos e1]
   have := of_decide_eq_true hv
   rw [wu64_id (by omega) (by omega), shl1 (by omega) (by omega), or1 (by omega) (by omega)]
  ·rw [if_neg e1] at hv ⊢
   by_cases e2 : v.1 = 2
   ·rw [if_pos e2] at hv ⊢
    rw [if_neg e1]
    simp only [Bool.and_eq_true, decide_eq_true_eq] at hv
    rw [wi64_id (by omega) (by omega), wu64_id (by omega) (by omega), shl1 (by omega) (by omega)]
   ·rw [if_neg e2] at hv
    cases hv
theorem put_no {v : Val} (hv : mayB v = false) : word_Put (v, ()) = some (0, false, ()) := by
 simp only [word_Put, word_Put_r, may_eq, hv, Option.bind_some, Bool.not_false, cond_true]
theorem put1_eq {v : Val} (hv : mayB v = true) (hr : v.2.1 ≤ 9223372036854775807) : r01_Put (v, ()) = some (putV v, ()) := by
 simp only [r01_Put, r01_Put_r, ibeq, Bool.cond_decide, putV]
 unfold mayB at hv
 by_cases e0 : v.1 = 0
 ·rw [if_pos e0, if_pos e0]
 ·rw [if_neg e0] at hv
  rw [if_neg e0, if_neg e0]
  by_cases e1 : v.1 = 1
  ·rw [if_pos e1] at hv
   have := of_decide_eq_true hv
   rw [if_pos e1, if_pos e1, wu64_id (n := v.2.1) (by omega) (by omega), wu64_id (n := 2 * v.2.1) (by omega) (by omega), wu64_id (by omega) (by omega)]
  ·rw [if_neg e1] at hv
   by_cases e2 : v.1 = 2
   ·rw [if_pos e2] at hv
    simp only [Bool.and_eq_true, decide_eq_true_eq] at hv
    rw [if_neg e1, if_neg e1, wu64_id (n := v.2.1) (by omega) (by omega), wu64_id (n := v.2.1 + 1) (by omega) (by omega), wu64_id (by omega) (by omega)]
   ·rw [if_neg e2] at hv
    cases hv
theorem field8_any {h : Heap} (f : FormP h) (a i : Int) : ∃ w : Val, r08_Field (h, a, i, ()) = some (w, fe h a i, ()) := by
 by_cases ho : (og h a).2.1 = true
 ·have hb := og_rng f ho
  by_cases hi : 0 ≤ i ∧ i < cnt h a
  ·refine ⟨rg (h.1.getD (a + 1 + i).toNat 0), ?_⟩
   rw [field8_eq f ho hi.1 hi.2]
   unfold cnt at hi
   unfold fe
   rw [if_pos ho, if_pos hi]
  ·refine ⟨(0, 0, ()), ?_⟩
   simp only [r08_Field, r08_Field_r, objGet8_eq f a, Option.bind_some, ho, Bool.not_true, cond_false, Bool.cond_decide]
   unfold cnt at hi
   unfold fe
   rw [if_pos ho, if_neg hi]
   by_cases h0 : i < 0
   ·rw [if_pos h0]
   ·rw [if_neg h0, if_pos (by omega)]
 ·refine ⟨(0, 0, ()), ?_⟩
  simp only [Bool.not_eq_true] at ho
  simp only [r08_Field, r08_Field_r, objGet8_eq f a, Option.bind_some, ho, Bool.not_false, cond_true]
  unfold fe
  rw [ho]
  rfl
def stH (h : Heap) (a i : Int) (v : Val) : Heap := (h.1.set (a + 1 + i).toNat (putV v), h.2.1, h.2.2)
theorem fe_okU {h : Heap} {a i : Int} (e : fe h a i = 0) : (og h a).2.1 = true ∧ 0 ≤ i ∧ i < (og h a).1.2.2.2.1 := by
 unfold fe at e
 split at e
 ·split at e
  ·rename_i a b; exact ⟨a, b⟩
  ·cases e
 ·cases e
theorem withU_eq {h : Heap} (f : FormP h) {p : Nat} (hp : p < h.1.length) (w : Int) : object_with (h, (p : Int), w, ()) = some ((h.1.set p w, h.2.1, h.2.2), ()) := by
 have hn := f.n16
 have hl := f.len
 simp only [object_with, object_with_r, slices_Clone_uint64, slices_Clone_api_Span, cloneF, Bool.cond_decide]
 rw [if_pos (by omega), Option.bind_some, if_pos (by omega), Option.bind_some]
 simp only []
 rw [if_pos (by omega), if_pos (by omega)]
 rfl
theorem with8_eq {h : Heap} (f : FormP h) {p : Nat} (hp : p < h.1.length) (w : Int) : r08_with (h, (p : Int), w, ()) = some ((h.1.set p w, h.2.1, h.2.2), ()) := by
 have hn := f.n16
 have hl := f.len
 simp only [r08_with, r08_with_r, Bool.cond_decide]
 rw [if_pos (by omega), with8_l0 h (by omega) p hp]
 rfl
theorem set8_eq {h : Heap} (f : FormP h) {a i : Int} {v : Val} (hr : v.2.1 ≤ 9223372036854775807) : ∃ e : Int, r08_Set (h, a, i, v, ()) = some (if fe h a i = 0 ∧ mayB v = true then (stH h a i v, 0, ()) else (h, e, ())) ∧ (fe h a i = 0 ∧ mayB v = true ∨ e ≠ 0) := by
 have hn := f.n16
 have hl := f.len
 obtain ⟨w, hw⟩ := field8_any f a i
 by_cases e : fe h a i = 0
 ·cases hv : mayB v with
  | true =>
   obtain ⟨ho, h1, h2⟩ := fe_okU e
   have hb := og_rng f ho
   refine ⟨0, ?_, .inl ⟨e, rfl⟩⟩
   rw [if_pos ⟨e, rfl⟩]
   simp only [r08_Set, r08_Set_r, hw, e, Option.bind_some, ibne, Bool.cond_decide, not_true, if_false, may1_eq, hv, Bool.not_true, cond_false, put1_eq hv hr]
   rw [wi64_id (n := a + 1) (by omega) (by omega), wi64_id (n := a + 1 + i) (by omega) (by omega)]
   obtain ⟨p, hp⟩ := Int.eq_ofNat_of_zero_le (show 0 ≤ a + 1 + i by omega)
   unfold stH
   rw [hp, with8_eq f (by omega)]
   rfl
  | false =>
   refine ⟨1, ?_, .inr (by decide)⟩
   rw [if_neg (by simp)]
   simp only [r08_Set, r08_Set_r, hw, e, Option.bind_some, ibne, Bool.cond_decide, not_true, if_false, may1_eq, hv, Bool.not_false, cond_true]
 ·refine ⟨fe h a i, ?_, .inr e⟩
  rw [if_neg (fun q => e q.1)]
  simp only [r08_Set, r08_Set_r, hw, Option.bind_some, ibne, Bool.cond_decide]
  rw [if_pos e]
end Go.Proofs.YtkjpakaidjpjgaaGreatDoor.Dfn
/- Pure laws: fields lie within their blocks; a field set. -/
namespace Go.Proofs.YtkjpakaidjpjgaaGreatDoor.Dfn
open Go
set_option linter.unusedVariables false
set_option linter.unusedSimpArgs false
set_option maxRecDepth 100000
def setO (h : Heap) (a i : Int) (v : Val) : Heap := if fe h a i = 0 ∧ mayB v = true then stH h a i v else h
end Go.Proofs.YtkjpakaidjpjgaaGreatDoor.Dfn
/- Pure laws: stacks, fields and operations, by program and by document. -/
namespace Go.Proofs.YtkjpakaidjpjgaaGreatDoor.Dfn
open Go
set_option linter.unusedVariables false
set_option linter.unusedSimpArgs false
set_option maxRecDepth 100000
def psh (st : List Val) (room : Int) (v : Val) : List Val := if room ≤ st.length then st else st ++ [v]
def pshE (st : List Val) (room : Int) : Int := if room ≤ st.length then 5 else 0
theorem pushR_eq {st : List Val} (hl : st.length ≤ 1000) (room : Int) (v : Val) : roots_Push (st, room, v, ()) = some (psh st room v, pshE st room, ()) := by
 simp only [roots_Push, roots_Push_r, cloneV_eq (show st.length ≤ 1000000 by omega), Option.bind_some, Bool.cond_decide, psh, pshE]
 by_cases h : room ≤ st.length
 ·rw [if_pos h, if_pos h, if_pos h]
 ·rw [if_neg h, if_neg h, if_neg h, if_pos (by omega)]
theorem push14_eq {st : List Val} (hl : st.length ≤ 1000) (room : Int) (v : Val) : r14_Push (st, room, v, ()) = some (psh st room v, pshE st room, ()) := by
 simp only [r14_Push, r14_Push_r, Bool.cond_decide, psh, pshE]
 by_cases h : room ≤ st.length
 ·rw [if_pos h, if_pos h, if_pos h]
 ·rw [if_neg h, if_neg h, if_neg h, if_pos (by omega), if_pos (by omega)]
theorem popR_eq {st : List Val} (hl : st.length ≤ 1000) : ∃ v e, roots_Pop (st, ()) = some (st.take (st.length - 1), v, e, ()) := by
 simp only [roots_Pop, roots_Pop_r, Bool.cond_decide]
 rw [wi64_id (by omega) (by omega)]
 by_cases h : st.length = 0
 ·rw [if_pos (by omega), List.take_of_length_le (by omega)]
  exact ⟨_, _, rfl⟩
 ·have e : ((st.length : Int) - 1).toNat - 0 = st.length - 1 := by omega
  rw [if_neg (by omega), if_pos (by omega), if_pos (by omega), e, List.drop_zero, cloneV_eq (by rw [List.length_take]; omega)]
  simp only [Option.bind_some]
  rw [if_pos (by omega), if_pos (by omega)]
  exact ⟨_, _, rfl⟩
theorem pop14_eq {st : List Val} (hl : st.length ≤ 1000) : ∃ v e, r14_Pop (st, ()) = some (st.take (st.length - 1), v, e, ()) := by
 simp only [r14_Pop, r14_Pop_r, Bool.cond_decide, ibeq]
 rw [wi64_id (by omega) (by omega)]
 by_cases h : st.length = 0
 ·rw [if_pos (by omega), List.take_of_length_le (by omega)]
  exact ⟨_, _, rfl⟩
 ·have e : ((st.length : Int) - 1).toNat - 0 = st.length - 1 := by omega
  rw [if_neg (by omega), if_pos (by omega), if_pos (by omega), e, List.drop_zero, if_pos (by rw [List.length_take]; omega), if_pos (by omega), if_pos (by omega)]
  exact ⟨_, _, rfl⟩
theorem slot14_eq (st : List Val) (i : Int) : r14_Slot (st, i, ()) = some (sat st i, se st i, ()) := by
 simp only [r14_Slot, r14_Slot_r, Bool.cond_decide, sat, se]
 by_cases h1 : i < 0
 ·rw [if_pos h1, if_neg (by omega), if_neg (by omega)]; rfl
 by_cases h2 : i ≥ (st.length : Int)
 ·rw [if_neg h1, if_pos h2, if_neg (by omega), if_neg (by omega)]; rfl
 rw [if_neg h1, if_neg h2, if_pos (by omega), if_pos (by omega), if_pos (by omega), if_pos (by omega)]; rfl
def oat (st : List Val) (i : Int) : Int := if oe st i = 0 then (sat st i).2.1 else 0
theorem objectR_eq (st : List Val) (i : Int) : roots_Object (st, i, ()) = some (oat st i, oe st i, ()) := object_eq st i
theorem object14_eq (st : List Val) (i : Int) : r14_Object (st, i, ()) = some (oat st i, oe st i, ()) := by
 simp only [r14_Object, r14_Object_r, slot14_eq, Option.bind_some, ibne, ibeq, Bool.cond_decide, oat]
 by_cases h : se st i = 0
 ·simp only [oe, h, not_true, if_false, if_true]
  by_cases h0 : (sat st i).1 = 0
  ·simp [h0]
  ·by_cases h2 : (sat st i).1 = 2
   ·simp [h2]
   ·simp [h0, h2]
 ·have : se st i = 3 := by unfold se at *; split at h <;> simp_all
  simp [oe, this]
theorem field8_eqV {h : Heap} (f : FormP h) (a i : Int) : r08_Field (h, a, i, ()) = some (fldV h a i, fe h a i, ()) := by
 obtain ⟨w, e1⟩ := field8_any f a i
 obtain ⟨e, e2⟩ := field8_all f a i
 have h1 := e1.symm.trans e2
 simp only [Option.some.injEq, Prod.mk.injEq] at h1
 rw [e1, h1.1]
theorem fieldR_eq {h : Heap} (f : FormP h) {a : Int} (l : -9223372036854775808 ≤ a) (u : a < 9223372036854775808) (i : Int) : object_Field (h, a, i, ()) = some (fldV h a i, fe h a i, ()) := field_eq f l u i
theorem check19_eq {h : Heap} (f : FormP h) (st : List Val) (room : Int) (o : OpT) : r19_Check (h, st, room, o, ()) = some (ck h st room o, ()) := by
 have ho : ∀ a, oe st a = 0 → oat st a = (sat st a).2.1 := fun a e => by unfold oat; rw [if_pos e]
 simp only [r19_Check, r19_Check_r, object14_eq, slot14_eq, field8_eqV f, Option.bind_some, ibne, ibeq, Bool.cond_decide, ck]
 by_cases k0 : o.1 = 0
 ·have e : ow h st o = wie o.2.1 0 15 := by unfold ow; rw [if_pos k0]
  rw [e]
  unfold wie pu
  by_cases c : room ≤ st.length <;> by_cases c1 : o.2.1 < 0 <;> by_cases c2 : 15 < o.2.1 <;> simp [k0, c, c1, c2]
  all_goals omega
 by_cases k4 : o.1 = 4
 ·have e : ow h st o = wie o.2.1 0 1099511627776 := by unfold ow; rw [if_neg k0, if_pos k4]
  rw [e]
  unfold wie pu
  by_cases c : room ≤ st.length <;> by_cases c1 : o.2.1 < 0 <;> by_cases c2 : 1099511627776 < o.2.1 <;> simp [k4, c, c1, c2]
  all_goals omega
 by_cases k1 : o.1 = 1
 ·have e : ow h st o = ofe h st o := by unfold ow; rw [if_neg k0, if_neg k4, if_pos k1]
  rw [e]
  unfold ofe pu
  by_cases c : room ≤ st.length <;> by_cases c1 : oe st o.2.1 = 0
  ·rw [ho _ c1]
   by_cases c2 : fe h (sat st o.2.1).2.1 o.2.2.1 = 0 <;> simp [k1, c, c1, c2]
  ·simp [k1, c, c1]
  ·rw [ho _ c1]
   by_cases c2 : fe h (sat st o.2.1).2.1 o.2.2.1 = 0 <;> simp [k1, c, c1, c2]
  ·simp [k1, c, c1]
 by_cases k2 : o.1 = 2
 ·have e : ow h st o = if ofe h st o = 0 then se st o.2.2.2.1 else ofe h st o := by unfold ow; rw [if_neg k0, if_neg k4, if_neg k1, if_pos k2]
  rw [e]
  unfold ofe pu
  by_cases c : room ≤ st.length <;> by_cases c1 : oe st o.2.1 = 0
  ·rw [ho _ c1]
   by_cases c2 : fe h (sat st o.2.1).2.1 o.2.2.1 = 0 <;> simp [k2, c, c1, c2]
  ·simp [k2, c, c1]
  ·rw [ho _ c1]
   by_cases c2 : fe h (sat st o.2.1).2.1 o.2.2.1 = 0 <;> simp [k2, c, c1, c2]
  ·simp [k2, c, c1]
 by_cases k3 : o.1 = 3
 ·have e : ow h st o = se st o.2.1 := by unfold ow; rw [if_neg k0, if_neg k4, if_neg k1, if_neg k2, if_pos k3]
  rw [e]
  unfold pu
  by_cases c : room ≤ st.length <;> by_cases c1 : se st o.2.1 = 0 <;> simp [k3, c, c1]
 by_cases k5 : o.1 = 5
 ·have e : ow h st o = if st.length = 0 then 3 else 0 := by unfold ow; rw [if_neg k0, if_neg k4, if_neg k1, if_neg k2, if_neg k3, if_pos k5]
  rw [e]
  unfold pu
  by_cases c : room ≤ st.length <;> by_cases c1 : st.length = 0 <;> simp [k5, c, c1]
 by_cases k6 : o.1 = 6
 ·have e : ow h st o = 0 := by unfold ow; rw [if_neg k0, if_neg k4, if_neg k1, if_neg k2, if_neg k3, if_neg k5, if_pos k6]
  rw [e]
  unfold pu
  by_cases c : room ≤ st.length <;> simp [k6, c]
 ·have e : ow h st o = 1 := by unfold ow; rw [if_neg k0, if_neg k4, if_neg k1, if_neg k2, if_neg k3, if_neg k5, if_neg k6]
  rw [e]
  unfold pu
  by_cases c : room ≤ st.length <;> simp [k0, k1, k2, k3, k4, k5, k6, c]
theorem setR_eq {h : Heap} (f : FormP h) {a i : Int} (l : -9223372036854775808 ≤ a) (u : a < 9223372036854775808) {v : Val} (hr : v.2.1 ≤ 9223372036854775807) : ∃ e, object_Set (h, a, i, v, ()) = some (if fe h a i = 0 ∧ mayB v = true then stH h a i v else h, e, ()) := by
 simp only [object_Set, object_Set_r, place_eq f l u, Option.bind_some, ibne, Bool.cond_decide]
 by_cases e : fe h a i = 0
 ·rw [if_neg (fun hh => hh e), if_pos e]
  cases hv : mayB v with
  | true =>
   obtain ⟨ho, h1, h2⟩ := fe_okU e
   have hb := og_rng f ho
   have hl := f.len
   obtain ⟨p, hp⟩ := Int.eq_ofNat_of_zero_le (show 0 ≤ a + 1 + i by omega)
   rw [if_pos ⟨e, rfl⟩]
   simp only [put_eq hv hr, Option.bind_some, Bool.not_true, cond_false]
   unfold stH
   rw [hp, withU_eq f (by omega)]
   exact ⟨0, rfl⟩
  | false =>
   rw [if_neg (by simp)]
   simp only [put_no hv, Option.bind_some, Bool.not_false, cond_true]
   exact ⟨_, rfl⟩
 ·rw [if_pos e, if_neg (fun q => e q.1)]
  exact ⟨_, rfl⟩
theorem set8V_eq {h : Heap} (f : FormP h) {a i : Int} {v : Val} (hr : v.2.1 ≤ 9223372036854775807) : ∃ e, r08_Set (h, a, i, v, ()) = some (if fe h a i = 0 ∧ mayB v = true then stH h a i v else h, e, ()) := by
 obtain ⟨e, h1, -⟩ := set8_eq (i := i) (a := a) f hr
 rw [h1]
 split
 ·exact ⟨0, rfl⟩
 ·exact ⟨e, rfl⟩
end Go.Proofs.YtkjpakaidjpjgaaGreatDoor.Dfn
/- Pure laws: a mutator's turn, by program and by document. -/
namespace Go.Proofs.YtkjpakaidjpjgaaGreatDoor.Dfn
open Go
set_option linter.unusedVariables false
set_option linter.unusedSimpArgs false
set_option maxRecDepth 100000
abbrev EvT : Type := Int × Int × Int × Val × Unit
def curM (w : WrldT) (k : Nat) : MutT := w.2.2.1.getD k mz
def putM (w : WrldT) (k : Nat) (m : MutT) : WrldT := (w.1, w.2.1, w.2.2.1.set k m, w.2.2.2)
def restM (m : MutT) (st : List Val) : MutT := (st, 0, (0, 0, 0, 0, ()), 0, (0, 0, ()), m.2.2.2.2.2.1, ())
def doneW (w : WrldT) (k : Nat) (st : List Val) (e : Int) (v : Val) : WrldT × EvT × Unit := (putM w k (restM (curM w k) st), ((k : Int), 2, e, v, ()), ())
def pushW (w : WrldT) (k : Nat) (v : Val) : WrldT × EvT × Unit := doneW w k (psh (curM w k).1 w.1.2.2.1 v) 0 v
def workW (w : WrldT) (k : Nat) (m : MutT) : WrldT × EvT × Unit := (putM w k m, ((k : Int), 1, 0, (0, 0, ()), ()), ())
def wantW (w : WrldT) : WrldT := (w.1, w.2.1, w.2.2.1, w.2.2.2.1, w.2.2.2.2.1, true, w.2.2.2.2.2.2)
def heapW (w : WrldT) (h : Heap) : WrldT := (w.1, h, w.2.2)
def noteW (w : WrldT) (k : Nat) (v : Val) : WrldT := if w.2.2.2.2.1 = 1 then (w.1, (nt w.2.1 w.2.2.2.1 k v).1, w.2.2.1, (nt w.2.1 w.2.2.2.1 k v).2, w.2.2.2.2) else w
def begW (w : WrldT) (k : Nat) (o : OpT) : WrldT × EvT × Unit :=
 if o.1 = 3 then pushW w k (sat (curM w k).1 o.2.1)
 else if o.1 = 4 then pushW w k (1, o.2.1, ())
 else if o.1 = 5 then doneW w k ((curM w k).1.take ((curM w k).1.length - 1)) 0 (0, 0, ())
 else if o.1 = 6 then doneW (wantW w) k (curM w k).1 0 (0, 0, ())
 else if o.1 = 0 then workW (swpW w).1 k ((curM w k).1, 1, o, (curM w k).2.2.2)
 else if o.1 = 1 then workW w k ((curM w k).1, 3, o, (curM w k).2.2.2.1, fldV w.2.1 (oat (curM w k).1 o.2.1) o.2.2.1, (curM w k).2.2.2.2.2)
 else workW (noteW w k (fldV w.2.1 (oat (curM w k).1 o.2.1) o.2.2.1)) k ((curM w k).1, 4, o, oat (curM w k).1 o.2.1, sat (curM w k).1 o.2.2.2.1, (curM w k).2.2.2.2.2)
def takeV (h : Heap) (c : List (List Int)) (k : Nat) (n : Int) : Heap × List (List Int) × Int × Bool × Unit := (take_Take (h, c, (k : Int), n, ())).getD (h, c, 0, false, ())
def takW (w : WrldT) (k : Nat) (t : Heap × List (List Int) × Int × Bool × Unit) : WrldT × EvT × Unit :=
 if t.2.2.2.1 = true then workW (heapW w t.1) k ((curM w k).1, 2, (curM w k).2.2.1, t.2.2.1, (curM w k).2.2.2.2.1, t.2.1.getD k (List.replicate 4 0), (curM w k).2.2.2.2.2.2)
 else if w.2.2.2.2.1 = 2 then ((swpW w).1, ((k : Int), 1, 0, (0, 0, ()), ()), ())
 else doneW (wantW w) k (curM w k).1 6 (0, 0, ())
def turnW (w : WrldT) (k : Nat) (o : OpT) : WrldT × EvT × Unit :=
 if (curM w k).2.1 = 0 then
  if ck w.2.1 (curM w k).1 w.1.2.2.1 o ≠ 0 then doneW w k (curM w k).1 (ck w.2.1 (curM w k).1 w.1.2.2.1 o) (0, 0, ())
  else begW w k o
 else if (curM w k).2.1 = 1 then takW w k (takeV w.2.1 (cachesW w.2.2.1) k (curM w k).2.2.1.2.1)
 else if (curM w k).2.1 = 2 then pushW w k (2, (curM w k).2.2.2.1, ())
 else if (curM w k).2.1 = 3 then pushW w k (curM w k).2.2.2.2.1
 else doneW (heapW w (setO w.2.1 (curM w k).2.2.2.1 (curM w k).2.2.1.2.2.1 (curM w k).2.2.2.2.1)) k (curM w k).1 0 (0, 0, ())
theorem cloneM_eq {l : List MutT} (h : l.length ≤ 1000) : slices_Clone_api_Mutator (l, ()) = some (l, ()) := by
 simp only [slices_Clone_api_Mutator, cloneF, Bool.cond_decide]
 rw [if_pos (by omega)]
theorem set_self {α : Type} {l : List α} {k : Nat} (z : α) (hk : k < l.length) : l.set k (l.getD k z) = l := by
 rw [get_d _ _ _ hk, List.set_getElem_self]
theorem with21_eq {w : WrldT} (hl : w.2.2.1.length ≤ 1000) (hs : ∀ m : MutT, m ∈ w.2.2.1 → m.1.length ≤ 1000) {k : Nat} (hk : k < w.2.2.1.length) (m : MutT) : r21_with (w, (k : Int), m, ()) = some (putM w k m, ()) := by
 simp only [r21_with, r21_with_r, copied18_eq hl hs, Option.bind_some, Bool.cond_decide, Int.toNat_natCast]
 rw [if_pos (by omega), if_pos (by omega)]
 rfl
theorem swp_ms (w : WrldT) : (swpW w).1.2.2.1 = w.2.2.1 ∧ (swpW w).1.1 = w.1 := by
 unfold swpW
 split
 ·split <;> exact ⟨rfl, rfl⟩
 ·exact ⟨rfl, rfl⟩
structure TrnF (w : WrldT) (k : Nat) : Prop where
 p : HP w.2.1
 ml : w.2.2.1.length ≤ 1000
 st : ∀ m : MutT, m ∈ w.2.2.1 → m.1.length ≤ 1000
 h4 : Row4 (cachesW w.2.2.1)
 rt : RightP w.2.1 (cachesW w.2.2.1)
 k_ : k < w.2.2.1.length
 sp : StP (curM w k).1
 ob : -9223372036854775808 ≤ (curM w k).2.2.2.1 ∧ (curM w k).2.2.2.1 < 9223372036854775808
 vl : (curM w k).2.1 = 4 → (curM w k).2.2.2.2.1.2.1 ≤ 9223372036854775807
 mkp : w.2.2.2.2.1 = 1 → MkP w.2.1 w.2.2.2.1 ∧ k < w.2.2.2.1.2.1.length
 sd : 0 ≤ (curM w k).2.1 ∧ (curM w k).2.1 ≤ 4
theorem oat_rng {st : List Val} (p : StP st) (i : Int) : -9223372036854775808 ≤ oat st i ∧ oat st i < 9223372036854775808 := by
 unfold oat
 split
 ·exact p.sat i
 ·decide
theorem take_V {h : Heap} (q : HP h) {c : List (List Int)} (h4 : Row4 c) (hl : c.length ≤ 1000) (r : RightP h c) {m : Nat} (hm : m < c.length) (n : Int) :
  take_Take (h, c, (m : Int), n, ()) = some (takeV h c m n) ∧ r11_Take (h, c, (m : Int), n, ()) = some (takeV h c m n) ∧ (takeV h c m n = (h, c, 0, false, ()) ∨ ∃ k p i, TakeP h c m n k p i ∧ takeV h c m n = takeR h c m n k p i) := by
 unfold takeV
 rcases take_spec0 q h4 hl r hm n with ⟨e1, e3⟩ | ⟨k, p, i, t, e1, e3⟩
 ·rw [e1]
  exact ⟨rfl, e3, .inl rfl⟩
 ·rw [e1]
  exact ⟨rfl, e3, .inr ⟨k, p, i, t, rfl⟩⟩
theorem takeV_len {h : Heap} (q : HP h) {c : List (List Int)} (h4 : Row4 c) (hl : c.length ≤ 1000) (r : RightP h c) {m : Nat} (hm : m < c.length) (n : Int) : (takeV h c m n).2.1.length = c.length := by
 rcases (take_V q h4 hl r hm n).2.2 with e | ⟨k, p, i, t, e⟩
 ·rw [e]
 ·rw [e]
  exact setC_len _ _ _ _
theorem mutTurn_eq {w : WrldT} {k : Nat} (T : TrnF w k) (o : OpT) : mut_Turn (w, (k : Int), o, ()) = some (turnW w k o) := by
 have f := T.p.f
 have hk := T.k_
 have hml := T.ml
 have q1 : (0 : Int) ≤ (k : Int) := by omega
 have q2 : (k : Int) < (w.2.2.1.length : Int) := by omega
 have hc : w.2.2.1.getD k mz = curM w k := rfl
 have hm : curM w k ∈ w.2.2.1 := by rw [← hc, get_d _ _ _ hk]; exact List.getElem_mem _
 have hst := T.st _ hm
 obtain ⟨v, e, hpop⟩ := popR_eq hst
 obtain ⟨oa0, oa1⟩ := oat_rng T.sp o.2.1
 have sms := (swp_ms w).1
 have sc := (swp_ms w).2
 have q3 : (k : Int) < ((swpW w).1.2.2.1.length : Int) := by rw [sms]; exact q2
 have q4 : (k : Int) < ((takeV w.2.1 (cachesW w.2.2.1) k (curM w k).2.2.1.2.1).2.1.length : Int) := by
  rw [takeV_len T.p T.h4 (by rw [cachesW_len]; omega) T.rt (by rw [cachesW_len]; omega), cachesW_len]
  omega
 have htk := (take_V T.p T.h4 (by rw [cachesW_len]; omega) T.rt (by rw [cachesW_len]; exact hk) (curM w k).2.2.1.2.1).1
 simp only [mut_Turn, mut_Turn_r, Bool.cond_decide, ibeq, ibne, if_pos q1, if_pos q2, Int.toNat_natCast, show (([] : List Val), (0 : Int), ((0 : Int), (0 : Int), (0 : Int), (0 : Int), ()), (0 : Int), ((0 : Int), (0 : Int), ()), List.replicate 4 (0 : Int), ()) = mz from rfl, hc, check_eq f T.sp, Option.bind_some, cloneM_eq hml, slot_eq', pushR_eq hst, hpop, sweeper_eq T.p hml T.h4, sms, objectR_eq, fieldR_eq f oa0 oa1, caches_eq hml, htk, if_pos q3, if_pos q4]
 unfold turnW
 by_cases s0 : (curM w k).2.1 = 0
 ·rw [if_pos s0, if_pos s0]
  by_cases c : ck w.2.1 (curM w k).1 w.1.2.2.1 o = 0
  ·rw [if_neg (fun hh => hh c), if_neg (show ¬ ck w.2.1 (curM w k).1 w.1.2.2.1 o ≠ 0 from fun hh => hh c)]
   unfold begW
   by_cases k3 : o.1 = 3
   ·rw [if_pos k3, if_pos k3]; rfl
   rw [if_neg k3, if_neg k3]
   by_cases k4 : o.1 = 4
   ·rw [if_pos k4, if_pos k4]; rfl
   rw [if_neg k4, if_neg k4]
   by_cases k5 : o.1 = 5
   ·rw [if_pos k5, if_pos k5]; rfl
   rw [if_neg k5, if_neg k5]
   by_cases k6 : o.1 = 6
   ·rw [if_pos k6, if_pos k6]; rfl
   rw [if_neg k6, if_neg k6]
   by_cases k0 : o.1 = 0
   ·rw [if_pos k0, if_pos k0]
    unfold workW putM
    rw [sms]
   rw [if_neg k0, if_neg k0]
   by_cases k1 : o.1 = 1
   ·rw [if_pos k1, if_pos k1]; rfl
   rw [if_neg k1, if_neg k1]
   unfold noteW
   by_cases p1 : w.2.2.2.2.1 = 1
   ·obtain ⟨M, hb⟩ := T.mkp p1
    have hf := fldV_rng f (oat (curM w k).1 o.2.1) o.2.2.1
    have hn := note_eq f M hb hf.1 hf.2
    have hv : ((fldV w.2.1 (oat (curM w k).1 o.2.1) o.2.2.1).1, (fldV w.2.1 (oat (curM w k).1 o.2.1) o.2.2.1).2.1, ()) = fldV w.2.1 (oat (curM w k).1 o.2.1) o.2.2.1 := rfl
    rw [if_pos p1, if_pos p1]
    simp only [hv, hn, Option.bind_some]
    rfl
   ·rw [if_neg p1, if_neg p1]; rfl
  ·rw [if_pos c, if_pos (show ck w.2.1 (curM w k).1 w.1.2.2.1 o ≠ 0 from c)]; rfl
 rw [if_neg s0, if_neg s0]
 by_cases s1 : (curM w k).2.1 = 1
 ·rw [if_pos s1, if_pos s1]
  unfold takW
  cases ht : (takeV w.2.1 (cachesW w.2.2.1) k (curM w k).2.2.1.2.1).2.2.2.1 with
  | true =>
   simp only [cond_true, if_true]
   rfl
  | false =>
   simp only [cond_false, Bool.false_eq_true, if_false]
   by_cases p2 : w.2.2.2.2.1 = 2
   ·rw [if_pos p2, if_pos p2]
    have e : w.2.2.1.set k ((curM w k).1, 1, (curM w k).2.2) = w.2.2.1 := by
     have : ((curM w k).1, (1 : Int), (curM w k).2.2) = curM w k := by rw [← s1]
     rw [this]
     exact set_self mz hk
    rw [e, ← sms]
   ·rw [if_neg p2, if_neg p2]; rfl
 rw [if_neg s1, if_neg s1]
 by_cases s2 : (curM w k).2.1 = 2
 ·rw [if_pos s2, if_pos s2]; rfl
 rw [if_neg s2, if_neg s2]
 by_cases s3 : (curM w k).2.1 = 3
 ·rw [if_pos s3, if_pos s3]; rfl
 have s4 : (curM w k).2.1 = 4 := by have := T.sd; omega
 obtain ⟨es, hset⟩ := setR_eq (i := (curM w k).2.2.1.2.2.1) f T.ob.1 T.ob.2 (T.vl s4)
 rw [if_neg s3, if_neg s3, if_pos s4, hset]
 rfl
end Go.Proofs.YtkjpakaidjpjgaaGreatDoor.Dfn
/- Pure laws: the document's sweep of a page, its sweeper's turn, its note of a value. -/
namespace Go.Proofs.YtkjpakaidjpjgaaGreatDoor.Dfn
open Go
set_option linter.unusedVariables false
set_option linter.unusedSimpArgs false
set_option maxRecDepth 100000
theorem one12_l0 {a : Int} (h0 : 0 ≤ a) (c0 : Heap) (x y z : Bool × Unit) (s : Span) (u : Bool × Unit) (r1 : List Int) (r2 : List Span) (ws : List Int) (ss : List Span) (hl : a + cw s.2.1 ≤ ws.length) (hw : ws.length ≤ 512) :
  r12_One_l0 (a, 0, c0, x, y, z, s, u, r1, r2, ws, ss, ()) = some (.out (c0, x, y, z, u, r1, r2, zer ws a.toNat (cw s.2.1).toNat, ss, ())) := by
 have hc := cw_le s.2.1
 unfold r12_One_l0
 refine iterL_run (cw s.2.1).toNat (fun i => (a, (i : Int), c0, x, y, z, s, u, r1, r2, zer ws a.toNat i, ss, ())) (fun i hi => ?_) ?_ (by omega) (by simp only [zer_zero]; rfl)
 ·simp only [r12_One_s0, r12_One_s0r, Bool.cond_decide, words4_eq, Option.bind_some]
  rw [if_pos (by omega), wi64_id (by omega) (by omega), wi64_id (by omega) (by omega), if_pos (by omega), zer_len (by omega), if_pos (by omega), show (a + (i : Int)).toNat = a.toNat + i by omega, zer_succ (by omega)]
  rfl
 ·simp only [r12_One_s0, r12_One_s0r, Bool.cond_decide, words4_eq, Option.bind_some]
  rw [if_neg (by omega)]
def nb (w j : Nat) : Nat := (j + w - 1) / w
theorem nb_step {w : Nat} (hw : w = 2 ∨ w = 4 ∨ w = 8 ∨ w = 16) (j : Nat) : (j % w = 0 → nb w j = j / w ∧ nb w (j + 1) = j / w + 1 ∧ j / w * w = j) ∧ (j % w ≠ 0 → nb w (j + 1) = nb w j) := by
 rcases hw with rfl | rfl | rfl | rfl <;> unfold nb <;> omega
theorem one12_l1 {h : Heap} (q : HP h) (c : List (List Int)) {p : Nat} (hp : p < h.2.1.length) (x : Bool × Unit) (ws : (h.2.1.getD p sz).1 ≠ 0) :
  r12_One_l1 (c, (p : Int), 0, wi64 (32 * (p : Int)), h, x, (h.2.2.1, ()), h.1, h.2.1, ()) =
   some (.out (c, (p : Int), (swF h p (pgN h p)).2, x, h.2.2, (swF h p (pgN h p)).1.1, (swF h p (pgN h p)).1.2.1, ())) := by
 have f := q.f
 have hn := f.n16
 have hl := f.len
 obtain ⟨w, b, hw, hb, ec, b16, hB⟩ := blk_of f hp
 have hst : stP h p ≠ 0 := ws
 obtain ⟨ew, hwb, hbw⟩ : cw (h.2.1.getD p sz).2.1 = (w : Int) ∧ (w = 2 ∨ w = 4 ∨ w = 8 ∨ w = 16) ∧ b * w = 32 := by
  obtain ⟨w', b', e1, e2, e3, e4⟩ := pg_class f hp
  have : w' = w := by unfold pgW at hw; rw [e1] at hw; omega
  subst this
  have : b' = b := by rw [e2] at ec; omega
  subst this
  refine ⟨e1, ?_, ?_⟩ <;> rcases e3 with ⟨rfl, rfl⟩ | ⟨rfl, rfl⟩ | ⟨rfl, rfl⟩ | ⟨rfl, rfl⟩ <;> simp
 have hnb : nb w 32 = b := by rcases hwb with rfl | rfl | rfl | rfl <;> unfold nb <;> omega
 have w0 : wi64 (32 * (p : Int)) = ((32 * p : Nat) : Int) := by rw [wi64_id (by omega) (by omega)]; omega
 rw [hb, w0]
 unfold r12_One_l1
 refine iterL_run 32 (fun j => (c, (p : Int), (swF h p (nb w j)).2, ((32 * p + j : Nat) : Int), h, x, h.2.2, (swF h p (nb w j)).1.1, (swF h p (nb w j)).1.2.1, ())) (fun j hj => ?_) ?_ (by omega) ?_
 ·obtain ⟨n1, n2⟩ := nb_step hwb j
  have e1 : ((32 * p + j : Nat) : Int) < ((32 * p : Nat) : Int) + 32 := by omega
  have e2 : wi64 (((32 * p : Nat) : Int) + 32) = ((32 * p : Nat) : Int) + 32 := wi64_id (by omega) (by omega)
  have e3 : wi64 (((32 * p + j : Nat) : Int) + 1) = ((32 * p + (j + 1) : Nat) : Int) := by rw [wi64_id (by omega) (by omega)]; omega
  obtain ⟨g1, g2, g3⟩ := swF_ok q p (nb w j)
  obtain ⟨g, hg⟩ : ∃ g, (swF h p (nb w j)).1 = g := ⟨_, rfl⟩
  rw [hg] at g1
  have hc : ((g.1, g.2.1, h.2.2) : Heap) = g := by rw [← g1.c]
  have fg := g1.hp.f
  simp only [r12_One_s1, r12_One_s1r, Bool.cond_decide, w0, e2, if_pos e1, hg, hc, objGet8_eq fg, black8_eq fg, find7_eq fg, Option.bind_some, e3]
  by_cases hm : j % w = 0
  ·obtain ⟨m1, m2, m3⟩ := n1 hm
   have hi : j / w < b := by
    rcases hwb with rfl | rfl | rfl | rfl <;> omega
   obtain ⟨i, hid⟩ : ∃ i, j / w = i := ⟨_, rfl⟩
   rw [hid] at m1 m2 m3 hi
   have B := hB i hi
   have ha : blA h p i = 32 * p + j := by rw [B.a_, m3]
   have hin := B.in_
   rw [← ha]
   have eb : blA h p i + w ≤ h.1.length := by omega
   have hnext : swF h p (nb w (j + 1)) = sw1 w (swF h p (nb w j)) (blA h p i) := by rw [m1, m2]; show sw1 (pgW h p) _ _ = _; rw [hw]
   rw [hnext]
   have hok : okA g (blA h p i) = (og g (blA h p i)).2.1 := rfl
   have g3 : (swF h p (nb w j)).2 ≤ 1000 := by
    rw [hw, m1] at g3
    have : ((i * w : Nat) : Int) ≤ 32 := by omega
    rw [Int.natCast_mul] at this
    rw [m1]
    omega
   unfold sw1
   rw [hg]
   cases e1 : (og g (blA h p i)).2.1 with
   | false =>
    rw [if_neg (show ¬ ((okA g (blA h p i) && !bk g (blA h p i)) = true ∧ freeP g (blA h p i)) from by rw [hok, e1]; simp)]
    simp only [Bool.not_false, cond_true, hg]
   | true =>
    simp only [Bool.not_true, cond_false]
    cases e2 : bk g (blA h p i) with
    | true =>
     rw [if_neg (show ¬ ((okA g (blA h p i) && !true) = true ∧ freeP g (blA h p i)) from by simp)]
     simp only [cond_true, hg]
    | false =>
     simp only [cond_false]
     have hf : fndB g (blA h p i) = true := (og_ok e1).1
     obtain ⟨ip, es⟩ := fnd_page hf
     have hR := fg.right _ ip.mem
     have h0 := g1.hp.fr _ ip.mem
     have i0 := ip.1
     have i1 := ip.2
     have hsp : g.2.1.getD ((blA h p i : Int) / 32).toNat (0, 0, 0, ()) = spanOf g (blA h p i) := rfl
     rw [es] at hR h0
     rw [fnd_in hf]
     simp only [Bool.not_true, cond_false, if_pos i0, if_pos i1, hsp]
     by_cases gv : giveP (spanOf g (blA h p i)) (blkI g (blA h p i))
     ·have fr : freeP g (blA h p i) := ⟨hf, gv⟩
      rw [if_pos (show (okA g (blA h p i) && !false) = true ∧ freeP g (blA h p i) from ⟨by rw [hok, e1]; rfl, fr⟩), (give_in h0 (rightB_free hR h0) gv).2]
      have hcl : (spanOf g (blA h p i)).2.1 = (h.2.1.getD p sz).2.1 := by
       have : spanOf g (blA h p i) = g.2.1.getD p sz := by
        unfold spanOf
        rw [ha, show (((32 * p + j : Nat) : Int) / 32).toNat = p by omega]
       rw [this]
       exact (g1.cl p).2
      have q1 : (0 : Int) ≤ (blA h p i : Int) := by omega
      have z1 := one12_l0 q1 h x h.2.2 (false, ()) ((spanOf g (blA h p i)).1, (spanOf g (blA h p i)).2.1, xr (spanOf g (blA h p i)).2.2.1 (blkI g (blA h p i)).toNat, ()) (setSp g ((blA h p i : Int) / 32) ((spanOf g (blA h p i)).1, (spanOf g (blA h p i)).2.1, xr (spanOf g (blA h p i)).2.2.1 (blkI g (blA h p i)).toNat, ())).2.2 g.1 g.2.1 (setSp g ((blA h p i : Int) / 32) ((spanOf g (blA h p i)).1, (spanOf g (blA h p i)).2.1, xr (spanOf g (blA h p i)).2.2.1 (blkI g (blA h p i)).toNat, ())).1 (setSp g ((blA h p i : Int) / 32) ((spanOf g (blA h p i)).1, (spanOf g (blA h p i)).2.1, xr (spanOf g (blA h p i)).2.2.1 (blkI g (blA h p i)).toNat, ())).2.1 (by show _ + cw (spanOf g (blA h p i)).2.1 ≤ (g.1.length : Int); rw [hcl, ew, g1.wl]; omega) (by show g.1.length ≤ 512; rw [g1.wl]; omega)
      have q5 : wi64 ((swF h p (nb w j)).2 + (w : Int)) = (swF h p (nb w j)).2 + (w : Int) := wi64_id (by omega) (by omega)
      have p1 : (0 : Int) ≤ (p : Int) := by omega
      have p2 : (p : Int) < (h.2.1.length : Int) := by omega
      have hw7 := with7_in fg ip
      simp only [Option.bind_some, Bool.not_true, cond_false, hw7, z1, if_pos p1, if_pos p2, words4_eq, Int.toNat_natCast]
      simp only [show ((0 : Int), (0 : Int), (0 : Int), ()) = sz from rfl, ew, q5]
      have e5 : freed g (blA h p i) = (zer g.1 (blA h p i : Int).toNat (cw (spanOf g (blA h p i)).2.1).toNat, g.2.1.set ((blA h p i : Int) / 32).toNat ((spanOf g (blA h p i)).1, (spanOf g (blA h p i)).2.1, xr (spanOf g (blA h p i)).2.2.1 (blkI g (blA h p i)).toNat, ()), g.2.2) := rfl
      have e6 : (setSp g ((blA h p i : Int) / 32) ((spanOf g (blA h p i)).1, (spanOf g (blA h p i)).2.1, xr (spanOf g (blA h p i)).2.2.1 (blkI g (blA h p i)).toNat, ())).2.2 = h.2.2 := g1.c
      rw [e5, e6]
      rfl
     ·rw [if_neg (show ¬ ((okA g (blA h p i) && !false) = true ∧ freeP g (blA h p i)) from fun hh => gv hh.2.2), (give_out h0 (rightB_free hR h0) gv).2]
      simp only [Option.bind_some, Bool.not_false, cond_true, hg]
  ·rw [n2 hm]
   have hno : (og g ((32 * p + j : Nat) : Int)).2.1 = false := by
    cases ho : (og g ((32 * p + j : Nat) : Int)).2.1 with
    | false => rfl
    | true =>
     have hd := (of_decide_eq_true (og_ok ho).1).2.2.2
     have : spanOf g ((32 * p + j : Nat) : Int) = g.2.1.getD p sz := by
      unfold spanOf
      rw [show (((32 * p + j : Nat) : Int) / 32).toNat = p by omega]
     rw [this, (g1.cl p).2, ew] at hd
     rcases hwb with rfl | rfl | rfl | rfl <;> omega
   simp only [hno, Bool.not_false, cond_true, hg]
 ·have e1 : ¬ ((32 * p + 32 : Nat) : Int) < ((32 * p : Nat) : Int) + 32 := by omega
  have e2 : wi64 (((32 * p : Nat) : Int) + 32) = ((32 * p : Nat) : Int) + 32 := wi64_id (by omega) (by omega)
  simp only [r12_One_s1, r12_One_s1r, Bool.cond_decide, w0, e2, if_neg e1, hnb]
 ·have : nb w 0 = 0 := by rcases hwb with rfl | rfl | rfl | rfl <;> rfl
  rw [this]
  rfl
theorem copied12_eq {h : Heap} (h1 : h.1.length ≤ 1000) (h2 : h.2.1.length ≤ 1000) : r12_copied (h, ()) = some ((h.1, h.2.1, h.2.2.1, ()), ()) := by
 simp only [r12_copied, r12_copied_r, Bool.cond_decide]
 rw [if_pos (by omega), if_pos (by omega)]
theorem free6_eq {s : Span} (h0 : 0 ≤ s.2.2.1) (h1 : s.2.2.1 < 4294967296) : r06_Free (s, ()) = some ((pcn 32 s.2.2.1.toNat : Int), ()) := by
 have := count3_eq (m := s.2.2.1.toNat) (by omega)
 rw [Int.toNat_of_nonneg h0] at this
 simp only [r06_Free, r06_Free_r, this, Option.bind_some]
theorem one12_page {h : Heap} (q : HP h) {c : List (List Int)} (h4 : Row4 c) (hcl : c.length ≤ 1000) {p : Nat} (hp : p < h.2.1.length) (hd : (h.2.1.getD p sz).1 = 2) :
  r12_One_s2 (c, (p : Int), h, (false, ()), ()) = some (.fin (.ret ((p : Int), (swF h p (pgN h p)).2, true, (oneG h c p).2.2, (oneG h c p).1, (oneG h c p).2.1, ()))) := by
 have hn := q.f.n16
 have hl := q.f.len
 have p1 : (0 : Int) ≤ (p : Int) := by omega
 have p2 : (p : Int) < (h.2.1.length : Int) := by omega
 have k1 := one12_l1 q c hp (false, ()) (by rw [hd]; decide)
 obtain ⟨I, -, -⟩ := swF_ok q p (pgN h p)
 unfold oneG
 obtain ⟨g, hg⟩ : ∃ g, (swF h p (pgN h p)).1 = g := ⟨_, rfl⟩
 rw [hg] at I k1 ⊢
 have hsl := I.sl
 obtain ⟨c1, c2⟩ := I.cl p
 have p3 : (p : Int) < (g.2.1.length : Int) := by omega
 have p4 : (p : Int) < ((g.2.1.set p (1, (g.2.1.getD p sz).2)).length : Int) := by rw [List.length_set]; omega
 have hm : g.2.1.getD p sz ∈ g.2.1 := by rw [get_d _ _ _ (by omega)]; exact List.getElem_mem _
 have h0 := I.hp.fr _ hm
 have hR := I.hp.f.right _ hm
 have hs : (g.2.1.getD p sz).1 ≠ 0 := by rw [c1, hd]; decide
 obtain ⟨-, r1, r2, r3⟩ := right_use hR hs
 have hfr := rightB_free hR h0
 have n2 : ¬ ¬ (h.2.1.getD p sz).1 = 2 := fun hh => hh hd
 have kp := kept11_eq h4 hcl (p : Int)
 have f6 := free6_eq (s := (1, (g.2.1.getD p sz).2)) h0 (by show (g.2.1.getD p sz).2.2.1 < _; omega)
 simp only [r12_One_s2, r12_One_s2r, Bool.cond_decide, if_pos p1, if_pos p2, Int.toNat_natCast]
 simp only [show ((0 : Int), (0 : Int), (0 : Int), ()) = sz from rfl, ibne, Bool.cond_decide, if_neg n2, copied12_eq (h := h) (by omega) (by omega), Option.bind_some, k1, if_pos p1, if_pos p3, if_pos p4, Int.toNat_natCast, set_getD _ _ (show p < g.2.1.length by omega), f6, blocks4_eq, kp, ibeq, List.set_set]
 have hcb := cb_le (g.2.1.getD p sz).2.1
 have hiff : ((pcn 32 (g.2.1.getD p sz).2.2.1.toNat : Int) = cb (g.2.1.getD p sz).2.1) ↔ (g.2.1.getD p sz).2.2.1 = 2 ^ (cb (h.2.1.getD p sz).2.1).toNat - 1 := by
  rw [← c2]
  obtain ⟨k, hk⟩ : ∃ k : Nat, cb (g.2.1.getD p sz).2.1 = k := ⟨(cb (g.2.1.getD p sz).2.1).toNat, by omega⟩
  obtain ⟨m, hmm⟩ : ∃ m : Nat, (g.2.1.getD p sz).2.2.1 = m := ⟨(g.2.1.getD p sz).2.2.1.toNat, by omega⟩
  rw [hk, Int.toNat_natCast, hmm] at r3
  rw [hk, hmm, Int.toNat_natCast, Int.toNat_natCast]
  have hlt : m < 2 ^ k := by
   have : (m : Int) < ((2 ^ k : Nat) : Int) := by rw [Int.natCast_pow]; exact r3
   omega
  have := pcn_all (k := k) (by omega) hlt
  have hpos : 0 < 2 ^ k := Nat.pow_pos (by decide)
  have hcast : ((2 ^ k : Nat) : Int) = (2 : Int) ^ k := by rw [Int.natCast_pow]; rfl
  constructor
  ·intro e
   have := this.1 (by omega)
   rw [← hcast]
   omega
  ·intro e
   rw [← hcast] at e
   have := this.2 (by omega)
   omega
 by_cases e : (g.2.1.getD p sz).2.2.1 = 2 ^ (cb (h.2.1.getD p sz).2.1).toNat - 1
 ·rw [if_pos (hiff.2 e)]
  by_cases kk : keptP c p
  ·rw [if_neg (show ¬ ((g.2.1.getD p sz).2.2.1 = 2 ^ (cb (h.2.1.getD p sz).2.1).toNat - 1 ∧ ¬ keptP c p) from fun hh => hh.2 kk), decide_eq_true (show (0 : Int) ≤ (p : Int) ∧ keptP c p from ⟨p1, kk⟩)]
   rfl
  ·rw [if_pos ⟨e, kk⟩, decide_eq_false (show ¬ ((0 : Int) ≤ (p : Int) ∧ keptP c p) from fun hh => kk hh.2)]
   rfl
 ·rw [if_neg (fun hh => e (hiff.1 hh)), if_neg (fun hh => e hh.1)]
theorem one12_eq {h : Heap} (q : HP h) {c : List (List Int)} (h4 : Row4 c) (hcl : c.length ≤ 1000) : ∃ a b d, r12_One (h, c, ()) = some (swpH h c, a, b, d, ()) := by
 have hn := q.f.n16
 have key : ((∀ i, i < h.2.1.length → decide ((h.2.1.getD i sz).1 = 2) = false) ∧ r12_One_l2 (c, 0, h, (false, ()), ()) = some (.out (h, (false, ()), ()))) ∨ ∃ i, i < h.2.1.length ∧ decide ((h.2.1.getD i sz).1 = 2) = true ∧ (∀ j, j < i → decide ((h.2.1.getD j sz).1 = 2) = false) ∧ r12_One_l2 (c, 0, h, (false, ()), ()) = some (.ret ((i : Int), (swF h i (pgN h i)).2, true, (oneG h c i).2.2, (oneG h c i).1, (oneG h c i).2.1, ())) := by
  unfold r12_One_l2
  refine scan_ruleI (P := fun i => decide ((h.2.1.getD i sz).1 = 2)) (fun i => (c, (i : Int), h, (false, ()), ())) (fun i hi => ?_) ?_ (by omega) rfl
  ·by_cases e : (h.2.1.getD i sz).1 = 2
   ·rw [if_pos (decide_eq_true e)]
    exact one12_page q h4 hcl hi e
   ·rw [if_neg (by simpa using e)]
    have q1 : (i : Int) < (h.2.1.length : Int) := by omega
    have q2 : (0 : Int) ≤ (i : Int) := by omega
    simp only [r12_One_s2, r12_One_s2r, Bool.cond_decide, if_pos q1, if_pos q2, Int.toNat_natCast, ibne]
    simp only [show ((0 : Int), (0 : Int), (0 : Int), ()) = sz from rfl]
    rw [if_pos e, wi64_id (n := (i : Int) + 1) (by omega) (by omega)]
    rfl
  ·simp only [r12_One_s2, r12_One_s2r, Bool.cond_decide]
   rw [if_neg (show ¬ ((h.2.1.length : Int) < (h.2.1.length : Int)) by omega)]
 unfold swpH
 rcases key with ⟨h1, e⟩ | ⟨i, hi, h1, h2, e⟩
 ·cases e1 : fstD h with
  | none =>
   simp only [r12_One, r12_One_r, e, Option.bind_some]
   exact ⟨_, _, _, rfl⟩
  | some p =>
   obtain ⟨hp, hd, -⟩ := fstD_some e1
   have := h1 p hp
   rw [decide_eq_true hd] at this
   cases this
 ·have hd := of_decide_eq_true h1
  cases e1 : fstD h with
  | none => exact absurd hd (fstD_none e1 i hi)
  | some p =>
   obtain ⟨hp, hd2, hz⟩ := fstD_some e1
   obtain rfl : i = p := by
    rcases Nat.lt_trichotomy i p with hlt | e | hgt
    ·exact absurd hd (hz i hlt)
    ·exact e
    ·have := h2 p hgt
     rw [decide_eq_true hd2] at this
     cases this
   simp only [r12_One, r12_One_r, e, Option.bind_some]
   exact ⟨_, _, _, rfl⟩
theorem sweeper20_eq {w : WrldT} (q : HP w.2.1) (hm : w.2.2.1.length ≤ 1000) (h4 : Row4 (cachesW w.2.2.1)) : r20_Sweeper (w, ()) = some (swpW w) := by
 have hn := q.f.n16
 obtain ⟨a, b, d, e1⟩ := one12_eq q h4 (by rw [cachesW_len]; exact hm)
 have hsl := swpH_len q (cachesW w.2.2.1)
 simp only [r20_Sweeper, r20_Sweeper_r, caches20_eq (w := w) hm, Option.bind_some, ibne, ibeq, Bool.cond_decide, e1, dirty12_eq (h := swpH w.2.1 (cachesW w.2.2.1)) (by omega)]
 unfold swpW
 by_cases e : w.2.2.2.2.1 = 2
 ·rw [if_neg (fun hh => hh e), if_pos e]
  by_cases c0 : dcnt (swpH w.2.1 (cachesW w.2.2.1)) = 0
  ·rw [if_pos (show (dcnt (swpH w.2.1 (cachesW w.2.2.1)) : Int) = 0 by omega), if_pos c0]
  ·rw [if_neg (show ¬ (dcnt (swpH w.2.1 (cachesW w.2.2.1)) : Int) = 0 by omega), if_neg c0]
 ·rw [if_pos e, if_neg e]
theorem note17_eq {h : Heap} (f : FormP h) {m : MarkT} (p : MkP h m) {i : Nat} (hi : i < m.2.1.length) (v : Val) : r17_Note (h, m, (i : Int), v, ()) = some ((nt h m i v).1, (nt h m i v).2, ()) := by
 have hb := p.bl
 have n1 : (0 : Int) ≤ (i : Int) := by omega
 have n2 : (i : Int) < (m.2.1.length : Int) := by omega
 have hm : m.2.1.getD i (0, [], ()) ∈ m.2.1 := by rw [get_d _ _ _ hi]; exact List.getElem_mem hi
 have hl : ∀ (b : Bool) (g : Heap) (x : Grey), r17_Note_l0 ((i : Int), b, 0, m, (false, ()), 0, (), (0, 0, 0, false, ()), g, x, [], ()) = some (.out (b, m, (false, ()), 0, (), (0, 0, 0, false, ()), g, m.2.1.set i x, ())) := fun b g x => by
  unfold r17_Note_l0
  refine iterL_run m.2.1.length (fun j => ((i : Int), b, (j : Int), m, (false, ()), 0, (), (0, 0, 0, false, ()), g, x, (m.2.1.set i x).take j, ())) (fun j hj => ?_) ?_ (by omega) rfl
  ·have hj' : j < (m.2.1.set i x).length := by rw [List.length_set]; exact hj
   have ht : (m.2.1.set i x).take (j + 1) = (m.2.1.set i x).take j ++ [(m.2.1.set i x)[j]] := (List.take_append_getElem hj').symm
   have hlen : ((m.2.1.set i x).take j).length = j := by rw [List.length_take]; omega
   have q1 : (j : Int) < (m.2.1.length : Int) := by omega
   have q2 : (0 : Int) ≤ (j : Int) := by omega
   have q3 : (j + 1) * 32 ≤ 140737488355328 := by omega
   simp only [r17_Note_s0, r17_Note_s0r, Bool.cond_decide, ibeq, if_pos q1, if_pos q2, hlen, if_pos q3, Int.toNat_natCast]
   rw [wi64_id (n := (j : Int) + 1) (by omega) (by omega), ht]
   by_cases e : j = i
   ·subst e
    rw [if_pos rfl, List.getElem_set_self]
    rfl
   ·rw [if_neg (show ¬ (j : Int) = (i : Int) by omega), List.getElem_set_ne (fun h => e h.symm), get_d _ _ _ hj]
    rfl
  ·have q1 : ¬ (m.2.1.length : Int) < (m.2.1.length : Int) := by omega
   simp only [r17_Note_s0, r17_Note_s0r, Bool.cond_decide, if_neg q1]
   rw [List.take_of_length_le (by rw [List.length_set]; exact Nat.le_refl _)]
 simp only [r17_Note, r17_Note_r, Bool.cond_decide, Int.toNat_natCast, if_pos n1, if_pos n2, shade16_eq f (p.b _ hm), Option.bind_some, hl, nt]
 cases m.2.2.2.2.2.2.1 with
 | true => rfl
 | false => rfl
end Go.Proofs.YtkjpakaidjpjgaaGreatDoor.Dfn
/- Pure laws: the document's turn of a mutator. -/
namespace Go.Proofs.YtkjpakaidjpjgaaGreatDoor.Dfn
open Go
set_option linter.unusedVariables false
set_option linter.unusedSimpArgs false
set_option maxRecDepth 100000
theorem done21_eq {w : WrldT} (hl : w.2.2.1.length ≤ 1000) (hs : ∀ m : MutT, m ∈ w.2.2.1 → m.1.length ≤ 1000) {k : Nat} (hk : k < w.2.2.1.length) (st : List Val) (e : Int) (v : Val) : r21_done (w, (k : Int), st, e, v, ()) = some (doneW w k st e v) := by
 have q1 : (0 : Int) ≤ (k : Int) := by omega
 have q2 : (k : Int) < (w.2.2.1.length : Int) := by omega
 simp only [r21_done, r21_done_r, Bool.cond_decide, if_pos q1, if_pos q2, Int.toNat_natCast, with21_eq hl hs hk, Option.bind_some]
 rfl
theorem pushed21_eq {w : WrldT} (hl : w.2.2.1.length ≤ 1000) (hs : ∀ m : MutT, m ∈ w.2.2.1 → m.1.length ≤ 1000) {k : Nat} (hk : k < w.2.2.1.length) (v : Val) : r21_pushed (w, (k : Int), v, ()) = some (pushW w k v) := by
 have q1 : (0 : Int) ≤ (k : Int) := by omega
 have q2 : (k : Int) < (w.2.2.1.length : Int) := by omega
 have hm : curM w k ∈ w.2.2.1 := by
  unfold curM
  rw [get_d _ _ _ hk]
  exact List.getElem_mem _
 have hc : w.2.2.1.getD k mz = curM w k := rfl
 simp only [r21_pushed, r21_pushed_r, Bool.cond_decide, if_pos q1, if_pos q2, Int.toNat_natCast, show (([] : List Val), (0 : Int), ((0 : Int), (0 : Int), (0 : Int), (0 : Int), ()), (0 : Int), ((0 : Int), (0 : Int), ()), List.replicate 4 (0 : Int), ()) = mz from rfl, hc, push14_eq (hs _ hm), done21_eq hl hs hk, Option.bind_some]
 rfl
theorem begun21_eq {w : WrldT} {k : Nat} (T : TrnF w k) (o : OpT) : r21_begun (w, (k : Int), o, ()) = some (begW w k o) := by
 have f := T.p.f
 have hk := T.k_
 have hml := T.ml
 have q1 : (0 : Int) ≤ (k : Int) := by omega
 have q2 : (k : Int) < (w.2.2.1.length : Int) := by omega
 have hc : w.2.2.1.getD k mz = curM w k := rfl
 have hm : curM w k ∈ w.2.2.1 := by rw [← hc, get_d _ _ _ hk]; exact List.getElem_mem _
 have hst := T.st _ hm
 obtain ⟨v, e, hpop⟩ := pop14_eq hst
 have sms := (swp_ms w).1
 have hw1 : ∀ m, r21_with ((swpW w).1, (k : Int), m, ()) = some (putM (swpW w).1 k m, ()) := fun m => with21_eq (by rw [sms]; exact hml) (by rw [sms]; exact T.st) (by rw [sms]; exact hk) m
 have hw2 : ∀ m, r21_with (w, (k : Int), m, ()) = some (putM w k m, ()) := fun m => with21_eq hml T.st hk m
 have hd1 : ∀ st e v, r21_done ((w.1, w.2.1, w.2.2.1, w.2.2.2.1, w.2.2.2.2.1, true, w.2.2.2.2.2.2), (k : Int), st, e, v, ()) = some (doneW (wantW w) k st e v) := fun st e v => done21_eq (w := wantW w) hml T.st hk st e v
 simp only [r21_begun, r21_begun_r, Bool.cond_decide, ibeq, if_pos q1, if_pos q2, Int.toNat_natCast, show (([] : List Val), (0 : Int), ((0 : Int), (0 : Int), (0 : Int), (0 : Int), ()), (0 : Int), ((0 : Int), (0 : Int), ()), List.replicate 4 (0 : Int), ()) = mz from rfl, hc, sweeper20_eq T.p hml T.h4, Option.bind_some, hw1, slot14_eq, pushed21_eq hml T.st hk, hpop, done21_eq hml T.st hk, hd1, object14_eq, field8_eqV f, hw2]
 unfold begW
 by_cases k0 : o.1 = 0
 ·rw [if_pos k0, if_neg (show ¬ o.1 = 3 by omega), if_neg (show ¬ o.1 = 4 by omega), if_neg (show ¬ o.1 = 5 by omega), if_neg (show ¬ o.1 = 6 by omega), if_pos k0]; rfl
 rw [if_neg k0]
 by_cases k3 : o.1 = 3
 ·rw [if_pos k3, if_pos k3]
 rw [if_neg k3, if_neg k3]
 by_cases k4 : o.1 = 4
 ·rw [if_pos k4, if_pos k4]
 rw [if_neg k4, if_neg k4]
 by_cases k5 : o.1 = 5
 ·rw [if_pos k5, if_pos k5]
 rw [if_neg k5, if_neg k5]
 by_cases k6 : o.1 = 6
 ·rw [if_pos k6, if_pos k6]
 rw [if_neg k6, if_neg k6, if_neg k0]
 by_cases k1 : o.1 = 1
 ·rw [if_pos k1, if_pos k1]; rfl
 rw [if_neg k1, if_neg k1]
 unfold noteW
 by_cases p1 : w.2.2.2.2.1 = 1
 ·obtain ⟨M, hb⟩ := T.mkp p1
  have hn := note17_eq f M hb (fldV w.2.1 (oat (curM w k).1 o.2.1) o.2.2.1)
  have hv : ((fldV w.2.1 (oat (curM w k).1 o.2.1) o.2.2.1).1, (fldV w.2.1 (oat (curM w k).1 o.2.1) o.2.2.1).2.1, ()) = fldV w.2.1 (oat (curM w k).1 o.2.1) o.2.2.1 := rfl
  rw [if_pos p1, if_pos p1]
  have hw3 : ∀ h mk m, r21_with ((w.1, h, w.2.2.1, mk, w.2.2.2.2), (k : Int), m, ()) = some (putM (w.1, h, w.2.2.1, mk, w.2.2.2.2) k m, ()) := fun h mk m => with21_eq (w := (w.1, h, w.2.2.1, mk, w.2.2.2.2)) hml T.st hk m
  have hv2 : (((nt w.2.1 w.2.2.2.1 k (fldV w.2.1 (oat (curM w k).1 o.2.1) o.2.2.1)).2.1, (nt w.2.1 w.2.2.2.1 k (fldV w.2.1 (oat (curM w k).1 o.2.1) o.2.2.1)).2.2.1, (nt w.2.1 w.2.2.2.1 k (fldV w.2.1 (oat (curM w k).1 o.2.1) o.2.2.1)).2.2.2) : MarkT) = (nt w.2.1 w.2.2.2.1 k (fldV w.2.1 (oat (curM w k).1 o.2.1) o.2.2.1)).2 := rfl
  simp only [hv, hn, Option.bind_some, hv2, hw3]
  rfl
 ·rw [if_neg p1, if_neg p1]; rfl
theorem turn21_eq {w : WrldT} {k : Nat} (T : TrnF w k) (o : OpT) : r21_Turn (w, (k : Int), o, ()) = some (turnW w k o) := by
 have f := T.p.f
 have hk := T.k_
 have hml := T.ml
 have q1 : (0 : Int) ≤ (k : Int) := by omega
 have q2 : (k : Int) < (w.2.2.1.length : Int) := by omega
 have hc : w.2.2.1.getD k mz = curM w k := rfl
 have sms := (swp_ms w).1
 have q4 : (k : Int) < ((takeV w.2.1 (cachesW w.2.2.1) k (curM w k).2.2.1.2.1).2.1.length : Int) := by
  rw [takeV_len T.p T.h4 (by rw [cachesW_len]; omega) T.rt (by rw [cachesW_len]; omega), cachesW_len]
  omega
 have htk := (take_V T.p T.h4 (by rw [cachesW_len]; omega) T.rt (by rw [cachesW_len]; exact hk) (curM w k).2.2.1.2.1).2.1
 have hd0 : ∀ st e v, r21_done (w, (k : Int), st, e, v, ()) = some (doneW w k st e v) := fun st e v => done21_eq hml T.st hk st e v
 have hd1 : ∀ st e v, r21_done ((w.1, w.2.1, w.2.2.1, w.2.2.2.1, w.2.2.2.2.1, true, w.2.2.2.2.2.2), (k : Int), st, e, v, ()) = some (doneW (wantW w) k st e v) := fun st e v => done21_eq (w := wantW w) hml T.st hk st e v
 have hd2 : ∀ h st e v, r21_done ((w.1, h, w.2.2), (k : Int), st, e, v, ()) = some (doneW (heapW w h) k st e v) := fun h st e v => done21_eq (w := heapW w h) hml T.st hk st e v
 have hw2 : ∀ h m, r21_with ((w.1, h, w.2.2), (k : Int), m, ()) = some (putM (heapW w h) k m, ()) := fun h m => with21_eq (w := heapW w h) hml T.st hk m
 simp only [r21_Turn, r21_Turn_r, Bool.cond_decide, ibeq, ibne, if_pos q1, if_pos q2, Int.toNat_natCast, show (([] : List Val), (0 : Int), ((0 : Int), (0 : Int), (0 : Int), (0 : Int), ()), (0 : Int), ((0 : Int), (0 : Int), ()), List.replicate 4 (0 : Int), ()) = mz from rfl, hc, check19_eq f, Option.bind_some, hd0, begun21_eq T o, caches20_eq hml, htk, if_pos q4, hw2, sweeper20_eq T.p hml T.h4, hd1, pushed21_eq hml T.st hk]
 unfold turnW
 by_cases s0 : (curM w k).2.1 = 0
 ·rw [if_pos s0, if_pos s0]
  by_cases c : ck w.2.1 (curM w k).1 w.1.2.2.1 o = 0
  ·rw [if_neg (fun hh => hh c), if_neg (show ¬ ck w.2.1 (curM w k).1 w.1.2.2.1 o ≠ 0 from fun hh => hh c)]
  ·rw [if_pos c, if_pos (show ck w.2.1 (curM w k).1 w.1.2.2.1 o ≠ 0 from c)]
 rw [if_neg s0, if_neg s0]
 by_cases s1 : (curM w k).2.1 = 1
 ·rw [if_pos s1, if_pos s1]
  unfold takW
  cases ht : (takeV w.2.1 (cachesW w.2.2.1) k (curM w k).2.2.1.2.1).2.2.2.1 with
  | true =>
   simp only [cond_true, if_true]
   rfl
  | false =>
   simp only [cond_false, Bool.false_eq_true, if_false]
   by_cases p2 : w.2.2.2.2.1 = 2
   ·rw [if_pos p2, if_pos p2]
   ·rw [if_neg p2, if_neg p2]
 rw [if_neg s1, if_neg s1]
 by_cases s2 : (curM w k).2.1 = 2
 ·rw [if_pos s2, if_pos s2]
 rw [if_neg s2, if_neg s2]
 by_cases s3 : (curM w k).2.1 = 3
 ·rw [if_pos s3, if_pos s3]
 have s4 : (curM w k).2.1 = 4 := by have := T.sd; omega
 obtain ⟨es, hset⟩ := set8V_eq (a := (curM w k).2.2.2.1) (i := (curM w k).2.2.1.2.2.1) f (T.vl s4)
 rw [if_neg s3, if_neg s3, hset]
 simp only [Option.bind_some, hd2]
 rfl
end Go.Proofs.YtkjpakaidjpjgaaGreatDoor.Dfn
/- Pure laws: worlds whose mutators may have turns. -/
namespace Go.Proofs.YtkjpakaidjpjgaaGreatDoor.Dfn
open Go
set_option linter.unusedVariables false
set_option linter.unusedSimpArgs false
set_option maxRecDepth 100000
theorem awake21 : w21_awake () = some (true, ()) := by kernel_rfl
theorem mem_held {w : WrldT} {m : MutT} (hm : m ∈ w.2.2.1) {v : Val} (hv : v ∈ m.1) : v ∈ heldL w.2.2.1 := by
 unfold heldL
 exact List.mem_flatMap.2 ⟨m, hm, List.mem_append_left _ hv⟩
theorem fits21_eq {w : WrldT} (gw : Good cWrld w) (k : Int) : ∃ b, w21_fits (w, k, ()) = some (b, ()) ∧ (b = true → (WF w ∧ formW w = true) ∧ rdyW w = true ∧ 0 ≤ k ∧ k < w.2.2.1.length) := by
 obtain ⟨b, eb, hb⟩ := few20_eq gw
 simp only [w21_fits, w21_fits_r, eb, Option.bind_some]
 cases b with
 | false => exact ⟨false, rfl, fun h => by cases h⟩
 | true =>
  obtain ⟨q, hw, hr⟩ := hb rfl
  simp only [cond_true, form20_eq q.g, Option.bind_some, ready21_eq (w := w) (by have := q.g.ms.len; omega), Bool.cond_decide]
  cases hf : formW w with
  | false => exact ⟨false, rfl, fun h => by cases h⟩
  | true =>
   cases hy : rdyW w with
   | false => exact ⟨false, rfl, fun h => by cases h⟩
   | true =>
    simp only [cond_true]
    by_cases c : k ≥ 0
    ·rw [if_pos c]
     exact ⟨_, rfl, fun h => ⟨⟨wf_of gw q hw hr hf, trivial⟩, trivial, c, of_decide_eq_true h⟩⟩
    ·rw [if_neg c]
     exact ⟨false, rfl, fun h => by cases h⟩
theorem curM_mem {w : WrldT} {k : Nat} (hk : k < w.2.2.1.length) : curM w k ∈ w.2.2.1 := by
 unfold curM
 rw [get_d _ _ _ hk]
 exact List.getElem_mem _
theorem TrnF.of {w : WrldT} (gw : Good cWrld w) (W : WF w) (hf : formW w = true) (hy : rdyW w = true) {k : Nat} (hk : k < w.2.2.1.length) : TrnF w k := by
 have hm := curM_mem hk
 have M := W.q.g.ms
 have hf2 := hf
 unfold formW at hf2
 simp only [Bool.and_eq_true, decide_eq_true_eq] at hf2
 have hr := rdy_iff.1 (List.all_eq_true.1 hy _ hm)
 have g := gw.2.2.1.2 _ hm
 refine ⟨W.p, by have := M.len; omega, fun m h => by have := M.st m h; omega, W.h4, hf2.2.2.2.2.2.2.1, hk, ⟨by have := M.st _ hm; omega, fun v hv => W.q.hv v (mem_held hm hv)⟩, M.obj _ hm, fun _ => g.2.2.2.2.1.2.1.2, fun e => ⟨W.hm e, ?_⟩, ⟨hr.1, hr.2.1⟩⟩
 have h2 := hf2.2.2.2.2.2.2.2
 unfold mkB at h2
 rw [if_pos e] at h2
 simp only [Bool.and_eq_true, decide_eq_true_eq] at h2
 omega
theorem psh_len (st : List Val) (r : Int) (v : Val) : (psh st r v).length ≤ st.length + 1 := by
 unfold psh
 split
 ·omega
 ·rw [List.length_append, List.length_singleton]; omega
theorem caches_set {ms : List MutT} {k : Nat} {m : MutT} (e : m.2.2.2.2.2.1 = (ms.getD k mz).2.2.2.2.2.1) : cachesW (ms.set k m) = cachesW ms := by
 unfold cachesW
 rw [List.map_set]
 by_cases hk : k < ms.length
 ·rw [get_d _ _ _ hk] at e
  rw [e]
  have := @List.set_getElem_self _ (ms.map fun m => m.2.2.2.2.2.1) k (by rw [List.length_map]; exact hk)
  rw [List.getElem_map] at this
  exact this
 ·rw [List.set_eq_of_length_le (by rw [List.length_map]; omega)]
theorem cur_put {w : WrldT} {a b : Nat} (m : MutT) (hab : a ≠ b) : curM (putM w a m) b = curM w b := by
 unfold curM putM
 exact getD_set_ne hab _ _
theorem TrnF.put {w : WrldT} {a b : Nat} (T : TrnF w b) (Ta : TrnF w a) {m : MutT} (hab : a ≠ b) (hm : m.1.length ≤ 1000) (hc : m.2.2.2.2.2.1 = (curM w a).2.2.2.2.2.1) : TrnF (putM w a m) b := by
 have e := cur_put (w := w) m hab
 have ec : cachesW (putM w a m).2.2.1 = cachesW w.2.2.1 := caches_set hc
 refine ⟨T.p, ?_, fun x hx => ?_, by rw [ec]; exact T.h4, by rw [ec]; exact T.rt, ?_, by rw [e]; exact T.sp, by rw [e]; exact T.ob, by rw [e]; exact T.vl, T.mkp, by rw [e]; exact T.sd⟩
 ·show (List.set _ _ _).length ≤ _
  rw [List.length_set]
  exact T.ml
 ·rcases List.mem_or_eq_of_mem_set (show x ∈ w.2.2.1.set a m from hx) with h | h
  ·exact T.st x h
  ·rw [h]; exact hm
 ·show _ < (List.set _ _ _).length
  rw [List.length_set]
  exact T.k_
theorem SL.put {w : WrldT} (S : SL w) {a : Nat} {m : MutT} (hm : m.1.length ≤ 1000) : SL (putM w a m) := by
 refine ⟨S.hw, S.hs, ?_, fun x hx => ?_, S.gl, S.bl, S.il, S.rl, S.rp⟩
 ·show (List.set _ _ _).length ≤ _
  rw [List.length_set]
  exact S.ml
 ·rcases List.mem_or_eq_of_mem_set (show x ∈ w.2.2.1.set a m from hx) with h | h
  ·exact S.st x h
  ·rw [h]; exact hm
end Go.Proofs.YtkjpakaidjpjgaaGreatDoor.Dfn
