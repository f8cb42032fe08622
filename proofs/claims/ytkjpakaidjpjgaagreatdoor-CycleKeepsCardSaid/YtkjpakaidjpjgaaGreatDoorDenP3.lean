/- Pure laws. -/
import Derived.Test.YtkjpakaidjpjgaaGreatDoorDenP2
import Derived.Test.YtkjpakaidjpjgaaGreatDoorDenP1
/- Pure laws: pages swept. -/
namespace Go.Proofs.YtkjpakaidjpjgaaGreatDoor.Den
open Go
set_option linter.unusedVariables false
set_option linter.unusedSimpArgs false
set_option maxRecDepth 100000
def dirtS (s : Span) : Span := if s.1 = 1 then (2, s.2) else s
def begS (h : Heap) : Heap := (h.1, h.2.1.map dirtS, h.2.2)
theorem mapset {α : Type} (l : List α) (f : α → α) (i : Nat) (hi : i < l.length) : ((l.take i).map f ++ l.drop i).set i (f l[i]) = (l.take (i + 1)).map f ++ l.drop (i + 1) := by
 have h1 : ((l.take i).map f).length = i := by rw [List.length_map, List.length_take]; omega
 rw [List.set_append_right _ _ (by omega), h1, Nat.sub_self, List.drop_eq_getElem_cons hi, List.set_cons_zero, ← List.take_append_getElem hi, List.map_append, List.append_assoc]
 rfl
theorem mapget {α : Type} (l : List α) (f : α → α) (i : Nat) (hi : i < l.length) (z : α) : ((l.take i).map f ++ l.drop i).getD i z = l[i] := by
 have h1 : ((l.take i).map f).length = i := by rw [List.length_map, List.length_take]; omega
 rw [List.getD_eq_getElem?_getD, List.getElem?_append_right (by omega), h1, Nat.sub_self, List.drop_eq_getElem_cons hi]
 rfl
theorem maplen {α : Type} (l : List α) (f : α → α) (i : Nat) : ((l.take i).map f ++ l.drop i).length = l.length := by
 rw [List.length_append, List.length_map, List.length_take, List.length_drop]; omega
theorem sweepBegin_eq {h : Heap} (f : FormP h) : sweep_Begin (h, ()) = some (begS h, ()) := by
 have hn := f.n16
 have hl := f.len
 have key : sweep_Begin_l0 ((h.2.1.length : Int), 0, h.2.2, (false, ()), h.1, h.2.1, ()) = some (.out (h.2.2, (false, ()), h.1, h.2.1.map dirtS, ())) := by
  unfold sweep_Begin_l0
  refine iterL_run h.2.1.length (fun i => ((h.2.1.length : Int), (i : Int), h.2.2, (false, ()), h.1, (h.2.1.take i).map dirtS ++ h.2.1.drop i, ())) (fun i hi => ?_) ?_ (by omega) rfl
  ·have hm := maplen h.2.1 dirtS i
   simp only [sweep_Begin_s0, sweep_Begin_s0r, Bool.cond_decide, Int.toNat_natCast, ibeq, hm]
   have p1 : (i : Int) < (h.2.1.length : Int) := by omega
   have p2 : (0 : Int) ≤ (i : Int) := by omega
   simp only [show ((0 : Int), (0 : Int), (0 : Int), ()) = sz from rfl, mapget h.2.1 dirtS i hi sz, if_pos p1, if_pos p2]
   rw [wi64_id (n := (i : Int) + 1) (by omega) (by omega), ← mapset h.2.1 dirtS i hi]
   by_cases e : (h.2.1[i] : Span).1 = 1
   ·rw [if_pos e]
    have : dirtS h.2.1[i] = (2, (h.2.1[i] : Span).2) := by unfold dirtS; rw [if_pos e]
    rw [this]
    rfl
   ·rw [if_neg e]
    have : dirtS h.2.1[i] = h.2.1[i] := by unfold dirtS; rw [if_neg e]
    rw [this]
    have hs : ((h.2.1.take i).map dirtS ++ h.2.1.drop i).set i h.2.1[i] = (h.2.1.take i).map dirtS ++ h.2.1.drop i := by
     have hg := mapget h.2.1 dirtS i hi sz
     rw [get_d _ _ _ (by omega)] at hg
     rw [← hg]
     exact List.set_getElem_self (by omega)
    rw [hs]
    rfl
  ·simp only [sweep_Begin_s0, sweep_Begin_s0r, Bool.cond_decide]
   rw [if_neg (show ¬ ((h.2.1.length : Int) < (h.2.1.length : Int)) by omega), List.take_of_length_le (Nat.le_refl _), List.drop_of_length_le (Nat.le_refl _), List.append_nil]
 simp only [sweep_Begin, sweep_Begin_r, clone8_eq (show h.1.length ≤ 512 by omega), clone24_eq (show h.2.1.length ≤ 512 by omega), Option.bind_some, key]
 rfl
instance (s : Span) (i : Int) : Decidable (giveP s i) := by unfold giveP; infer_instance
instance (h : Heap) (a : Int) : Decidable (freeP h a) := by unfold freeP; infer_instance
def sw1 (w : Nat) (g : Heap × Int) (a : Int) : Heap × Int := if (okA g.1 a && !bk g.1 a) = true ∧ freeP g.1 a then (freed g.1 a, g.2 + (w : Int)) else g
def swF (h : Heap) (p : Nat) : Nat → Heap × Int
 | 0 => (h, 0)
 | n + 1 => sw1 (pgW h p) (swF h p n) (blA h p n)
structure SwI (h g : Heap) : Prop where
 hp : HP g
 wl : g.1.length = h.1.length
 sl : g.2.1.length = h.2.1.length
 cl : ∀ q, (g.2.1.getD q sz).1 = (h.2.1.getD q sz).1 ∧ (g.2.1.getD q sz).2.1 = (h.2.1.getD q sz).2.1
 c : g.2.2 = h.2.2
theorem getD_set_i {α : Type} (l : List α) (i j : Nat) (x z : α) : (l.set i x).getD j z = if i = j ∧ j < l.length then x else l.getD j z := by
 rw [List.getD_eq_getElem?_getD, List.getD_eq_getElem?_getD, List.getElem?_set]
 by_cases e : i = j
 ·subst e
  by_cases hl : i < l.length
  ·simp [hl]
  ·simp [hl]
 ·simp [e]
theorem SwI.freed {h g : Heap} (q : SwI h g) {a : Int} (i : freeP g a) : SwI h (freed g a) := by
 have hb := i.1
 have hr := fnd_room q.hp.f hb
 have h1 := fndB_rng hb
 have hc := cw_le (spanOf g a).2.1
 refine ⟨freed_hp q.hp i, ?_, ?_, fun r => ?_, q.c⟩
 ·show (zer g.1 a.toNat (cw (spanOf g a).2.1).toNat).length = _
  rw [zer_len (by omega), q.wl]
 ·show (g.2.1.set _ _).length = _
  rw [List.length_set, q.sl]
 ·show ((g.2.1.set _ _).getD r sz).1 = _ ∧ ((g.2.1.set _ _).getD r sz).2.1 = _
  rw [getD_set_i]
  split
  ·rename_i e
   have hs : spanOf g a = g.2.1.getD r sz := by unfold spanOf; rw [e.1]
   show (spanOf g a).1 = _ ∧ (spanOf g a).2.1 = _
   rw [hs]
   exact q.cl r
  ·exact q.cl r
theorem swF_ok {h : Heap} (q : HP h) (p : Nat) : ∀ n, SwI h (swF h p n).1 ∧ 0 ≤ (swF h p n).2 ∧ (swF h p n).2 ≤ (n : Int) * (pgW h p : Int)
 | 0 => ⟨⟨q, rfl, rfl, fun _ => ⟨rfl, rfl⟩, rfl⟩, by show (0 : Int) ≤ 0; omega, by show (0 : Int) ≤ _; simp⟩
 | n + 1 => by
  obtain ⟨h1, h2, h3⟩ := swF_ok q p n
  have e : ((n + 1 : Nat) : Int) * (pgW h p : Int) = (n : Int) * (pgW h p : Int) + (pgW h p : Int) := by rw [Int.natCast_succ, Int.add_mul, Int.one_mul]
  show SwI h (sw1 _ _ _).1 ∧ 0 ≤ (sw1 _ _ _).2 ∧ (sw1 _ _ _).2 ≤ _
  rw [e]
  unfold sw1
  split
  ·rename_i c
   exact ⟨h1.freed c.2, by show (0 : Int) ≤ _ + _; omega, by show _ + _ ≤ _; omega⟩
  ·exact ⟨h1, h2, by omega⟩
theorem sweep_l1 {h : Heap} (q : HP h) (c : List (List Int)) {p : Nat} (hp : p < h.2.1.length) (x : Bool × Unit) (ws : (h.2.1.getD p sz).1 ≠ 0) :
  sweep_One_l1 (c, (p : Int), (h.2.1.getD p sz).2.1, 0, cb (h.2.1.getD p sz).2.1, 0, x, h.2.2, h.1, h.2.1, ()) =
   some (.out (c, (p : Int), (swF h p (pgN h p)).2, x, h.2.2, (swF h p (pgN h p)).1.1, (swF h p (pgN h p)).1.2.1, ())) := by
 have f := q.f
 have hn := f.n16
 have hl := f.len
 obtain ⟨w, b, hw, hb, ec, b16, hB⟩ := blk_of f hp
 have ew : cw (h.2.1.getD p sz).2.1 = (w : Int) := by
  obtain ⟨w', b', e1, e2, e3, _⟩ := pg_class f hp
  unfold pgW at hw; rw [e1] at hw ⊢; omega
 rw [hb, ec]
 unfold sweep_One_l1
 refine iterL_run b (fun i => (c, (p : Int), (h.2.1.getD p sz).2.1, (swF h p i).2, (b : Int), (i : Int), x, h.2.2, (swF h p i).1.1, (swF h p i).1.2.1, ())) (fun i hi => ?_) ?_ (by omega) rfl
 ·have B := hB i hi
  have hin := B.in_
  have hB2 := B.two
  have hwb := B.wb
  obtain ⟨g1, g2, g3⟩ := swF_ok q p i
  have hin2 : (i : Int) * (w : Int) + (w : Int) ≤ 32 := by
   have : ((i * w + w : Nat) : Int) ≤ 32 := by omega
   rwa [Int.natCast_add, Int.natCast_mul] at this
  rw [hw] at g3
  have ea : ((32 * p + i * w : Nat) : Int) = (blA h p i : Int) := by rw [B.a_]
  have eb : blA h p i + w ≤ h.1.length := by rw [B.a_]; omega
  obtain ⟨g, hg⟩ : ∃ g, (swF h p i).1 = g := ⟨_, rfl⟩
  have hnext : swF h p (i + 1) = sw1 w (swF h p i) (blA h p i) := by show sw1 (pgW h p) _ _ = _; rw [hw]
  rw [hg] at g1
  have hc : ((g.1, g.2.1, h.2.2) : Heap) = g := by rw [← g1.c]
  have fg := g1.hp.f
  simp only [sweep_One_s1, sweep_One_s1r, Bool.cond_decide, class_Words_eq, ew, Option.bind_some, hg, hc]
  rw [if_pos (show (i : Int) < (b : Int) by omega), at_prog (by omega) (by omega), ea, wi64_id (n := (i : Int) + 1) (by omega) (by omega), objGet_eq fg (by omega) (by omega), black_eq fg (by omega) (by omega), find_eq fg (by omega) (by omega)]
  simp only [Option.bind_some]
  have hok : okA g (blA h p i) = (og g (blA h p i)).2.1 := rfl
  rw [hnext]
  unfold sw1
  rw [hg]
  cases e1 : (og g (blA h p i)).2.1 with
  | false =>
   rw [if_neg (by rw [hok, e1]; simp)]
   simp only [Bool.not_false, cond_true, hg]
   rfl
  | true =>
   simp only [Bool.not_true, cond_false]
   cases e2 : bk g (blA h p i) with
   | true =>
    rw [if_neg (by simp)]
    simp only [cond_true, hg]
    rfl
   | false =>
    simp only [cond_false]
    have hf : fndB g (blA h p i) = true := (og_ok e1).1
    obtain ⟨ip, es⟩ := fnd_page hf
    have hR := fg.right _ ip.mem
    have h0 := g1.hp.fr _ ip.mem
    rw [es] at hR h0
    rw [fnd_in hf]
    simp only [Bool.not_true, cond_false, page_in ip, Option.bind_some, es]
    by_cases gv : giveP (spanOf g (blA h p i)) (blkI g (blA h p i))
    ·have fr : freeP g (blA h p i) := ⟨hf, gv⟩
     rw [if_pos ⟨by rw [hok, e1]; rfl, fr⟩, (give_in h0 (rightB_free hR h0) gv).1]
     have i0 := ip.1
     have i1 := ip.2
     have hcl : (spanOf g (blA h p i)).2.1 = (h.2.1.getD p sz).2.1 := by
      have : spanOf g (blA h p i) = g.2.1.getD p sz := by
       unfold spanOf
       rw [B.a_, show (((32 * p + i * w : Nat) : Int) / 32).toNat = p by omega]
      rw [this]
      exact (g1.cl p).2
     have hsp : g.2.1.getD ((blA h p i : Int) / 32).toNat (0, 0, 0, ()) = spanOf g (blA h p i) := rfl
     simp only [Option.bind_some, Bool.not_true, cond_false, clone8_eq (show g.1.length ≤ 512 by rw [g1.wl]; omega), clone24_eq (show g.2.1.length ≤ 512 by rw [g1.sl]; omega), if_pos i0, if_pos i1, hsp, hcl, ew]
     have q1 : (0 : Int) ≤ (blA h p i : Int) := by omega
     have q2 : wi64 ((blA h p i : Int) + (w : Int)) = (blA h p i : Int) + (w : Int) := wi64_id (by omega) (by omega)
     have q3 : (blA h p i : Int) ≤ (blA h p i : Int) + (w : Int) := by omega
     have q4 : (blA h p i : Int) + (w : Int) ≤ (g.1.length : Int) := by rw [g1.wl]; omega
     have q5 : wi64 ((swF h p i).2 + (w : Int)) = (swF h p i).2 + (w : Int) := wi64_id (by omega) (by omega)
     simp only [q2, if_pos q1, if_pos q3, if_pos q4, q5]
     have e5 : freed g (blA h p i) = (segSet g.1 (blA h p i : Int).toNat (List.replicate (((blA h p i : Int) + (w : Int)).toNat - (blA h p i : Int).toNat) 0), g.2.1.set ((blA h p i : Int) / 32).toNat ((spanOf g (blA h p i)).1, (spanOf g (blA h p i)).2.1, xr (spanOf g (blA h p i)).2.2.1 (blkI g (blA h p i)).toNat, ()), g.2.2) := by
      unfold freed zer
      rw [hcl, ew, show ((blA h p i : Int) + (w : Int)).toNat - (blA h p i : Int).toNat = (w : Int).toNat by omega]
     rw [e5]
     rw [hcl]
     rfl
    ·rw [if_neg (fun hh => gv hh.2.2), (give_out h0 (rightB_free hR h0) gv).1]
     simp only [Option.bind_some, Bool.not_false, cond_true, hg]
     rfl
 ·simp only [sweep_One_s1, sweep_One_s1r, Bool.cond_decide]
  rw [if_neg (show ¬ ((b : Int) < (b : Int)) by omega)]
end Go.Proofs.YtkjpakaidjpjgaaGreatDoor.Den
/- Pure laws: the sweeper's turn, the marker's turn. -/
namespace Go.Proofs.YtkjpakaidjpjgaaGreatDoor.Den
open Go
set_option linter.unusedVariables false
set_option linter.unusedSimpArgs false
set_option maxRecDepth 100000
theorem spanEmpty_eq (s : Span) : span_Empty (s, ()) = some (decide ((s.1 = 1 ∨ s.1 = 2) ∧ s.2.2.1 = 2 ^ (cb s.2.1).toNat - 1), ()) := by
 simp only [span_Empty, span_Empty_r, span_inUse_eq, whole_eq, Option.bind_some, Bool.cond_decide, ibeq]
 by_cases e : s.1 = 1 ∨ s.1 = 2
 ·rw [if_pos e]
  exact congrArg (fun b => some (b, ())) (decide_eq_decide.2 ⟨fun h => ⟨e, h⟩, fun h => h.2⟩)
 ·rw [if_neg e, decide_eq_false (fun h => e h.1)]
theorem spanEmpty_one (x : Int × Int × Unit) : span_Empty ((1, x), ()) = some (decide (x.2.1 = 2 ^ (cb x.1).toNat - 1), ()) := by
 rw [spanEmpty_eq]
 exact congrArg (fun b => some (b, ())) (decide_eq_decide.2 ⟨fun h => h.2, fun h => ⟨.inl rfl, h⟩⟩)
def oneG (h : Heap) (c : List (List Int)) (p : Nat) : Heap :=
 if ((swF h p (pgN h p)).1.2.1.getD p sz).2.2.1 = 2 ^ (cb (h.2.1.getD p sz).2.1).toNat - 1 ∧ ¬ keptP c p then ((swF h p (pgN h p)).1.1, (swF h p (pgN h p)).1.2.1.set p sz, h.2.2)
 else ((swF h p (pgN h p)).1.1, (swF h p (pgN h p)).1.2.1.set p (1, ((swF h p (pgN h p)).1.2.1.getD p sz).2), h.2.2)
theorem set_getD {α : Type} (l : List α) (i : Nat) (hi : i < l.length) (x z : α) : (l.set i x).getD i z = x := by
 rw [get_d _ _ _ (by rw [List.length_set]; exact hi), List.getElem_set_self]
theorem sweepOne_none {h : Heap} (hl : h.2.1.length ≤ 16) (c : List (List Int)) (hz : ∀ i, i < h.2.1.length → (h.2.1.getD i sz).1 ≠ 2) : sweep_One (h, c, ()) = some (h, 0, 0, false, ()) := by
 have key : ((∀ i, i < h.2.1.length → decide ((h.2.1.getD i sz).1 = 2) = false) ∧ sweep_One_l0 (h.2.1, (h.2.1.length : Int), 0, h, (false, ()), ()) = some (.out (h, (false, ()), ()))) ∨ ∃ i, i < h.2.1.length ∧ decide ((h.2.1.getD i sz).1 = 2) = true ∧ (∀ j, j < i → decide ((h.2.1.getD j sz).1 = 2) = false) ∧ sweep_One_l0 (h.2.1, (h.2.1.length : Int), 0, h, (false, ()), ()) = some (.ret ((i : Int), h, (false, ()), ())) := by
  unfold sweep_One_l0
  refine scan_ruleI (P := fun i => decide ((h.2.1.getD i sz).1 = 2)) (fun i => (h.2.1, (h.2.1.length : Int), (i : Int), h, (false, ()), ())) (fun i hi => ?_) ?_ (by omega) rfl
  ·simp only [sweep_One_s0, sweep_One_s0r, sweep_dirty, sweep_dirty_r, Bool.cond_decide, Int.toNat_natCast, Option.bind_some, ibeq]
   simp only [show ((0 : Int), (0 : Int), (0 : Int), ()) = sz from rfl]
   rw [if_pos (show (i : Int) < (h.2.1.length : Int) by omega), if_pos (show (0 : Int) ≤ (i : Int) by omega), if_pos (show (i : Int) < (h.2.1.length : Int) by omega), wi64_id (n := (i : Int) + 1) (by omega) (by omega)]
   by_cases e : (h.2.1.getD i sz).1 = 2
   ·rw [if_pos e, if_pos (decide_eq_true e)]
   ·rw [if_neg e, if_neg (by simpa using e)]; rfl
  ·simp only [sweep_One_s0, sweep_One_s0r, Bool.cond_decide]
   rw [if_neg (show ¬ ((h.2.1.length : Int) < (h.2.1.length : Int)) by omega)]
 rcases key with ⟨_, e⟩ | ⟨i, hi, h1, _, _⟩
 ·simp only [sweep_One, sweep_One_r, e, Option.bind_some]
 ·exact absurd (of_decide_eq_true h1) (hz i hi)
theorem sweepOne_some {h : Heap} (q : HP h) {c : List (List Int)} (h4 : Row4 c) (hcl : c.length ≤ 1000) {p : Nat} (hp : p < h.2.1.length) (hd : (h.2.1.getD p sz).1 = 2) (hz : ∀ i, i < p → (h.2.1.getD i sz).1 ≠ 2) :
  sweep_One (h, c, ()) = some (oneG h c p, (p : Int), (swF h p (pgN h p)).2, true, ()) := by
 have hn := q.f.n16
 have hl := q.f.len
 have key : ((∀ i, i < h.2.1.length → decide ((h.2.1.getD i sz).1 = 2) = false) ∧ sweep_One_l0 (h.2.1, (h.2.1.length : Int), 0, h, (false, ()), ()) = some (.out (h, (false, ()), ()))) ∨ ∃ i, i < h.2.1.length ∧ decide ((h.2.1.getD i sz).1 = 2) = true ∧ (∀ j, j < i → decide ((h.2.1.getD j sz).1 = 2) = false) ∧ sweep_One_l0 (h.2.1, (h.2.1.length : Int), 0, h, (false, ()), ()) = some (.ret ((i : Int), h, (false, ()), ())) := by
  unfold sweep_One_l0
  refine scan_ruleI (P := fun i => decide ((h.2.1.getD i sz).1 = 2)) (fun i => (h.2.1, (h.2.1.length : Int), (i : Int), h, (false, ()), ())) (fun i hi => ?_) ?_ (by omega) rfl
  ·simp only [sweep_One_s0, sweep_One_s0r, sweep_dirty, sweep_dirty_r, Bool.cond_decide, Int.toNat_natCast, Option.bind_some, ibeq]
   simp only [show ((0 : Int), (0 : Int), (0 : Int), ()) = sz from rfl]
   rw [if_pos (show (i : Int) < (h.2.1.length : Int) by omega), if_pos (show (0 : Int) ≤ (i : Int) by omega), if_pos (show (i : Int) < (h.2.1.length : Int) by omega), wi64_id (n := (i : Int) + 1) (by omega) (by omega)]
   by_cases e : (h.2.1.getD i sz).1 = 2
   ·rw [if_pos e, if_pos (decide_eq_true e)]
   ·rw [if_neg e, if_neg (by simpa using e)]; rfl
  ·simp only [sweep_One_s0, sweep_One_s0r, Bool.cond_decide]
   rw [if_neg (show ¬ ((h.2.1.length : Int) < (h.2.1.length : Int)) by omega)]
 rcases key with ⟨h1, _⟩ | ⟨i, hi, h1, h2, e⟩
 ·have := h1 p hp
  rw [decide_eq_true hd] at this
  cases this
 obtain rfl : i = p := by
  rcases Nat.lt_trichotomy i p with hlt | e | hgt
  ·exact absurd (of_decide_eq_true h1) (hz i hlt)
  ·exact e
  ·have := h2 p hgt
   rw [decide_eq_true hd] at this
   cases this
 obtain ⟨I, -, -⟩ := swF_ok q i (pgN h i)
 have hsl := I.sl
 have hwl := I.wl
 have hcl2 := (I.cl i).2
 have k1 := sweep_l1 q c hp (false, ()) (by rw [hd]; decide)
 unfold oneG
 obtain ⟨g, hg⟩ : ∃ g, (swF h i (pgN h i)).1 = g := ⟨_, rfl⟩
 rw [hg] at I hsl hwl hcl2 k1 ⊢
 have n1 : ¬ ((i : Int) < 0) := by omega
 have p1 : (0 : Int) ≤ (i : Int) := by omega
 have p2 : (i : Int) < (h.2.1.length : Int) := by omega
 have p3 : (i : Int) < (g.2.1.length : Int) := by omega
 have p4 : (i : Int) < ((g.2.1.set i (1, (g.2.1.getD i sz).2)).length : Int) := by rw [List.length_set]; omega
 simp only [sweep_One, sweep_One_r, e, Option.bind_some, Bool.cond_decide, if_neg n1, if_pos p1, if_pos p2, sweepBegin_eq q.f, clone24_eq (show h.2.1.length ≤ 512 by omega), class_Blocks_eq, Int.toNat_natCast]
 simp only [show ((0 : Int), (0 : Int), (0 : Int), ()) = sz from rfl, begS, k1, Option.bind_some, Int.toNat_natCast, if_pos p1, if_pos p3, if_pos p4, spanEmpty_one, set_getD _ _ (show i < g.2.1.length by omega), hcl2]
 have hkep := takeKept_eq h4 hcl (i : Int)
 by_cases ce : (g.2.1.getD i sz).2.2.1 = 2 ^ (cb (h.2.1.getD i sz).2.1).toNat - 1
 ·rw [decide_eq_true ce]
  simp only [cond_true, hkep, Option.bind_some]
  by_cases ck : keptP c i
  ·rw [decide_eq_true (p := (0 : Int) ≤ (i : Int) ∧ keptP c i) ⟨p1, ck⟩, if_neg (fun hh => hh.2 ck)]
   rfl
  ·rw [decide_eq_false (p := (0 : Int) ≤ (i : Int) ∧ keptP c i) (fun hh => ck hh.2), if_pos ⟨ce, ck⟩]
   have hin : inP ((g.1, g.2.1.set i (1, (g.2.1.getD i sz).2), h.2.2) : Heap) (i : Int) := ⟨p1, p4⟩
   have hsp : spanAt ((g.1, g.2.1.set i (1, (g.2.1.getD i sz).2), h.2.2) : Heap) (i : Int) = (1, (g.2.1.getD i sz).2) := by
    show (g.2.1.set i _).getD (i : Int).toNat sz = _
    rw [Int.toNat_natCast, set_getD _ _ (show i < g.2.1.length by omega)]
   have hs : (g.2.1.set i (1, (g.2.1.getD i sz).2)).length ≤ 512 := by rw [List.length_set]; omega
   have p5 : (i : Int) < (((g.2.1.set i (1, (g.2.1.getD i sz).2))).length : Int) := p4
   simp only [Bool.not_false, cond_true, page_in hin, hsp, Option.bind_some, heap_Close_1, heap_Close_1_r, spanEmpty_one, hcl2]
   rw [decide_eq_true ce]
   simp only [Bool.not_true, cond_false, clone8_eq (show g.1.length ≤ 512 by omega), clone24_eq hs, Option.bind_some, if_pos p1, if_pos p5, List.set_set]
   rfl
 ·rw [decide_eq_false ce, if_neg (fun hh => ce hh.1)]
  rfl
def fstD (h : Heap) : Option Nat := h.2.1.findIdx? fun s => decide (s.1 = 2)
def swpH (h : Heap) (c : List (List Int)) : Heap := match fstD h with
 | none => h
 | some p => oneG h c p
theorem fstD_none {h : Heap} (e : fstD h = none) : ∀ i, i < h.2.1.length → (h.2.1.getD i sz).1 ≠ 2 := by
 intro i hi
 have := List.findIdx?_eq_none_iff.1 e _ (List.getElem_mem hi)
 rw [get_d _ _ _ hi]
 simpa using this
theorem fstD_some {h : Heap} {p : Nat} (e : fstD h = some p) : p < h.2.1.length ∧ (h.2.1.getD p sz).1 = 2 ∧ ∀ i, i < p → (h.2.1.getD i sz).1 ≠ 2 := by
 unfold fstD at e
 obtain ⟨hp, h1, h2⟩ := List.findIdx?_eq_some_iff_getElem.1 e
 refine ⟨hp, by rw [get_d _ _ _ hp]; exact of_decide_eq_true h1, fun i hi => ?_⟩
 have := h2 i hi
 rw [get_d _ _ _ (by omega)]
 simpa using this
def swpW (w : WrldT) : WrldT × Int × Unit :=
 if w.2.2.2.2.1 = 2 then
  if dcnt (swpH w.2.1 (cachesW w.2.2.1)) = 0 then ((w.1, swpH w.2.1 (cachesW w.2.2.1), w.2.2.1, w.2.2.2.1, 0, w.2.2.2.2.2), 5, ())
  else ((w.1, swpH w.2.1 (cachesW w.2.2.1), w.2.2), 1, ())
 else (w, 0, ())
theorem dcnt_zero {h : Heap} (hz : ∀ i, i < h.2.1.length → (h.2.1.getD i sz).1 ≠ 2) : dcnt h = 0 := by
 unfold dcnt
 rw [List.countP_eq_zero]
 intro s hs
 obtain ⟨i, hi, rfl⟩ := List.mem_iff_getElem.1 hs
 have := hz i hi
 rw [get_d _ _ _ hi] at this
 simpa using this
theorem oneG_len {h : Heap} (q : HP h) (c : List (List Int)) (p : Nat) : (oneG h c p).2.1.length = h.2.1.length ∧ (oneG h c p).1.length = h.1.length := by
 obtain ⟨I, -, -⟩ := swF_ok q p (pgN h p)
 have h1 := I.sl
 have h2 := I.wl
 unfold oneG
 split
 ·exact ⟨by show (List.set _ _ _).length = _; rw [List.length_set, h1], h2⟩
 ·exact ⟨by show (List.set _ _ _).length = _; rw [List.length_set, h1], h2⟩
theorem swpH_len {h : Heap} (q : HP h) (c : List (List Int)) : (swpH h c).2.1.length = h.2.1.length ∧ (swpH h c).1.length = h.1.length := by
 unfold swpH
 split
 ·exact ⟨rfl, rfl⟩
 ·exact oneG_len q c _
theorem sweeper_eq {w : WrldT} (q : HP w.2.1) (hm : w.2.2.1.length ≤ 1000) (h4 : Row4 (cachesW w.2.2.1)) : cycle_Sweeper (w, ()) = some (swpW w) := by
 have hn := q.f.n16
 simp only [cycle_Sweeper, cycle_Sweeper_r, caches_eq (w := w) hm, Option.bind_some, ibne, Bool.cond_decide]
 unfold swpW
 by_cases e : w.2.2.2.2.1 = 2
 ·rw [if_neg (fun hh => hh e), if_pos e]
  have hsl := swpH_len q (cachesW w.2.2.1)
  have hdq := dirty_eq (h := swpH w.2.1 (cachesW w.2.2.1)) (by omega)
  unfold swpH at hsl hdq ⊢
  cases e1 : fstD w.2.1 with
  | none =>
   rw [e1] at hdq
   rw [sweepOne_none (by omega) _ (fstD_none e1)]
   simp only [Option.bind_some, cond_false, hdq]
   have hz := dcnt_zero (fstD_none e1)
   rw [if_neg (show ¬ ((dcnt w.2.1 : Int) > 0) by omega), if_pos hz]
  | some p =>
   obtain ⟨hp, hd, hz⟩ := fstD_some e1
   rw [e1] at hdq
   rw [sweepOne_some q h4 (by rw [cachesW_len]; omega) hp hd hz]
   simp only [Option.bind_some, cond_true, hdq]
   by_cases c0 : dcnt (oneG w.2.1 (cachesW w.2.2.1) p) = 0
   ·rw [if_neg (show ¬ ((dcnt (oneG w.2.1 (cachesW w.2.2.1) p) : Int) > 0) by omega), if_pos c0]
   ·rw [if_pos (show ((dcnt (oneG w.2.1 (cachesW w.2.2.1) p) : Int) > 0) by omega), if_neg c0]
 ·rw [if_pos e, if_neg e]
end Go.Proofs.YtkjpakaidjpjgaaGreatDoor.Den
/- Pure laws: what a report tells; the marker's turn. -/
namespace Go.Proofs.YtkjpakaidjpjgaaGreatDoor.Den
open Go
set_option linter.unusedVariables false
set_option linter.unusedSimpArgs false
set_option maxRecDepth 100000
theorem del_rule {h o r : U} {step : h.T → Option (SRes h o r)} {L : List Int} {keep : Int → Bool} {lo : Nat → List Int → o.T} (g : Nat → Nat → List Int → h.T)
  (hs : ∀ (j k : Nat) (q : List Int) (hj : j < L.length), k < j → q.length = L.length → q.getD j 0 = L[j] → step (g j k q) = if keep L[j] = true then some (.next (g (j + 1) (k + 1) (q.set k L[j]))) else some (.next (g (j + 1) k q)))
  (he : ∀ (k : Nat) (q : List Int), k ≤ L.length → q.length = L.length → step (g L.length k q) = some (.fin (.out (lo k q))))
  {i : Nat} (hi : i < L.length) (hp : keep L[i] = false) (hz : ∀ j (hj : j < L.length), j < i → keep L[j] = true) {fuel : Nat} (hf : L.length < fuel) {x : h.T} (hx : x = g (i + 1) i L) :
  ∃ (k : Nat) (q : List Int), iterL step fuel x = some (.out (lo k q)) ∧ k ≤ q.length ∧ q.length = L.length ∧ q.take k = L.filter keep := by
 have key : ∃ l, iterL step fuel x = some l ∧ ∃ (k : Nat) (q : List Int), l = .out (lo k q) ∧ k ≤ q.length ∧ q.length = L.length ∧ q.take k = L.filter keep := by
  subst hx
  refine iterL_rule (fun m y => ∃ (j k : Nat) (q : List Int), k < j ∧ j ≤ L.length ∧ m = L.length - j ∧ y = g j k q ∧ q.length = L.length ∧ q.take k = (L.take j).filter keep ∧ q.drop j = L.drop j) ?_ fuel (L.length - (i + 1)) _ (by omega) ⟨i + 1, i, L, by omega, by omega, rfl, rfl, rfl, ?_, rfl⟩
  ·rintro m y ⟨j, k, q, hkj, hj, rfl, rfl, hql, hqt, hqd⟩
   by_cases hlt : j < L.length
   ·have hqj : q[j]'(by omega) = L[j] := by
     have h1 : (q.drop j)[0]? = (L.drop j)[0]? := by rw [hqd]
     rw [List.getElem?_drop, List.getElem?_drop] at h1
     simp only [Nat.add_zero] at h1
     rw [List.getElem?_eq_getElem (by omega), List.getElem?_eq_getElem hlt] at h1
     injection h1
    have hgj : q.getD j 0 = L[j] := by rw [get_d _ _ _ (show j < q.length by omega)]; exact hqj
    have htk : L.take (j + 1) = L.take j ++ [L[j]] := (List.take_append_getElem hlt).symm
    have hqd2 : q.drop (j + 1) = L.drop (j + 1) := by
     have : (q.drop j).drop 1 = (L.drop j).drop 1 := by rw [hqd]
     rwa [List.drop_drop, List.drop_drop] at this
    rw [hs j k q hlt hkj hql hgj]
    cases hk : keep L[j] with
    | true =>
     rw [if_pos rfl]
     refine .inl ⟨L.length - (j + 1), _, by omega, rfl, j + 1, k + 1, q.set k L[j], by omega, by omega, rfl, rfl, by rw [List.length_set]; exact hql, ?_, ?_⟩
     ·rw [htk, List.filter_append, ← hqt, List.filter_cons, hk, if_pos rfl, List.filter_nil]
      rw [← List.take_append_getElem (show k < (q.set k L[j]).length by rw [List.length_set]; omega), List.getElem_set_self, List.take_set_of_le (Nat.le_refl _)]
     ·rw [List.drop_set_of_lt (by omega)]
      exact hqd2
    | false =>
     rw [if_neg (by simp)]
     refine .inl ⟨L.length - (j + 1), _, by omega, rfl, j + 1, k, q, by omega, by omega, rfl, rfl, hql, ?_, hqd2⟩
     rw [htk, List.filter_append, ← hqt, List.filter_cons, hk, if_neg (by simp), List.filter_nil, List.append_nil]
   ·obtain rfl : j = L.length := by omega
    rw [he k q (by omega) hql]
    refine .inr ⟨_, rfl, k, q, rfl, by omega, hql, ?_⟩
    rw [hqt, List.take_of_length_le (Nat.le_refl _)]
  ·have h1 : L.take (i + 1) = L.take i ++ [L[i]] := (List.take_append_getElem hi).symm
   rw [h1, List.filter_append, List.filter_cons, hp, if_neg (by simp), List.filter_nil, List.append_nil, List.filter_eq_self.2]
   intro a ha
   obtain ⟨j, hj, rfl⟩ := List.mem_iff_getElem.1 ha
   rw [List.length_take] at hj
   rw [List.getElem_take]
   exact hz j (by omega) (by omega)
 obtain ⟨l, e, k, q, rfl, h1, h2, h3⟩ := key
 exact ⟨k, q, e, h1, h2, h3⟩
theorem cut_len {r : List Int} {k : Nat} (h1 : k ≤ r.length) : (segSet r k (List.replicate (r.length - k) (0 : Int))).length = r.length := by
 unfold segSet
 simp only [List.length_append, List.length_take, List.length_replicate, List.length_drop]
 omega
theorem cut_take {r : List Int} {k : Nat} (h1 : k ≤ r.length) : ((segSet r k (List.replicate (r.length - k) (0 : Int))).drop 0).take (k - 0) = r.take k := by
 unfold segSet
 rw [List.drop_zero, Nat.sub_zero, List.append_assoc, List.take_append_of_le_length (by rw [List.length_take]; omega), List.take_of_length_le (by rw [List.length_take]; omega)]
theorem reachBlack_eq {h : Heap} (f : FormP h) : reach_Black (h, ()) = some ((lst h).filter (bk h), ()) := by
 have hl := lst_len f
 have hr := lst_rng f
 have k0 : ((∀ i, i < (lst h).length → (!bk h ((lst h).getD i 0)) = false) ∧ reach_Black_l0 (((lst h).length : Int), 0, h, lst h, ()) = some (.out (h, lst h, ()))) ∨ ∃ i, i < (lst h).length ∧ (!bk h ((lst h).getD i 0)) = true ∧ (∀ j, j < i → (!bk h ((lst h).getD j 0)) = false) ∧ reach_Black_l0 (((lst h).length : Int), 0, h, lst h, ()) = some (.ret ((i : Int), h, lst h, ())) := by
  unfold reach_Black_l0
  refine scan_ruleI (P := fun i => !bk h ((lst h).getD i 0)) (fun i => (((lst h).length : Int), (i : Int), h, lst h, ())) (fun i hi => ?_) ?_ (by omega) rfl
  ·have hg := hr _ (List.getElem_mem hi)
   simp only [reach_Black_s0, reach_Black_s0r, Bool.cond_decide, Int.toNat_natCast, get_d _ _ _ hi, black_eq f (show -9223372036854775808 ≤ (lst h)[i] by omega) (by omega), Option.bind_some]
   rw [if_pos (show (i : Int) < ((lst h).length : Int) by omega), if_pos (show (0 : Int) ≤ (i : Int) by omega), if_pos (show (i : Int) < ((lst h).length : Int) by omega), wi64_id (n := (i : Int) + 1) (by omega) (by omega)]
   cases bk h (lst h)[i] <;> rfl
  ·simp only [reach_Black_s0, reach_Black_s0r, Bool.cond_decide]
   rw [if_neg (show ¬ (((lst h).length : Int) < ((lst h).length : Int)) by omega)]
 simp only [reach_Black, reach_Black_r, objList_eq f, Option.bind_some, ibeq, Bool.cond_decide]
 rcases k0 with ⟨hz, e0⟩ | ⟨i, hi, hp, hz, e0⟩
 ·have hself : (lst h).filter (bk h) = lst h := by
   rw [List.filter_eq_self]
   intro a ha
   obtain ⟨j, hj, rfl⟩ := List.mem_iff_getElem.1 ha
   have := hz j hj
   rw [get_d _ _ _ hj] at this
   simpa using this
  rw [e0, hself]
  rfl
 ·rw [get_d _ _ _ hi] at hp
  obtain ⟨k, q, e1, h1, h2, h3⟩ : ∃ (k : Nat) (q : List Int), reach_Black_l1 ((i : Int), (i : Int) + 1, h, lst h, ()) = some (.out ((k : Int), q, ())) ∧ k ≤ q.length ∧ q.length = (lst h).length ∧ q.take k = (lst h).filter (bk h) := by
   unfold reach_Black_l1
   refine del_rule (h := reach_Black_h1) (o := reach_Black_o1) (r := reach_Black_e1) (fuel := 9223372036854775808) (L := lst h) (keep := bk h) (lo := fun k q => ((k : Int), q, ())) (fun j k q => ((k : Int), (j : Int), h, q, ())) (fun j k q hj hkj hql hg => ?_) (fun k q hk hql => ?_) hi (by simpa using hp) (fun j hj hji => by
    have := hz j hji
    rw [get_d _ _ _ hj] at this
    simpa using this) (by omega) rfl
   ·have hg2 := hr _ (List.getElem_mem hj)
    have q1 : (j : Int) < ((lst h).length : Int) := by omega
    have q2 : (0 : Int) ≤ (j : Int) := by omega
    have q3 : (0 : Int) ≤ (k : Int) := by omega
    have q4 : (k : Int) < ((lst h).length : Int) := by omega
    simp only [reach_Black_s1, reach_Black_s1r, Bool.cond_decide, Int.toNat_natCast, hql, hg, if_pos q1, if_pos q2, if_pos q3, if_pos q4, black_eq f (show -9223372036854775808 ≤ (lst h)[j] by omega) (by omega), Option.bind_some]
    rw [wi64_id (n := (j : Int) + 1) (by omega) (by omega), wi64_id (n := (k : Int) + 1) (by omega) (by omega)]
    cases bk h (lst h)[j] <;> rfl
   ·simp only [reach_Black_s1, reach_Black_s1r, Bool.cond_decide, hql]
    rw [if_neg (show ¬ (((lst h).length : Int) < ((lst h).length : Int)) by omega)]
  have hi1 : ¬ (i : Int) = -1 := by omega
  simp only [e0, Option.bind_some, if_neg hi1]
  rw [wi64_id (n := (i : Int) + 1) (by omega) (by omega), e1]
  simp only [Option.bind_some, Int.toNat_natCast]
  rw [cut_len h1, cut_take h1, h3]
  rw [if_pos (show (0 : Int) ≤ (k : Int) by omega), if_pos (show (k : Int) ≤ (q.length : Int) by omega), if_pos (show (q.length : Int) ≤ (q.length : Int) by omega), if_pos (show (0 : Int) ≤ (k : Int) by omega), if_pos (show (k : Int) ≤ (q.length : Int) by omega)]
noncomputable def tellW (w : WrldT) : Conf := (w.2.2.2.2.2.2.1, (w.2.1.1.length : Int) - usN w.2.1 w.2.1.2.1.length, wsum w.2.1 ((lst w.2.1).filter (bk w.2.1)), wsum w.2.1 ((lst w.2.1).filter (bk w.2.1)) - wsum w.2.1 (heldO w), usN w.2.1 w.2.1.2.1.length - wsum w.2.1 ((lst w.2.1).filter (bk w.2.1)), ())
theorem tell_eq {w : WrldT} (q : GA w) (p : HP w.2.1) : cycle_Tell (w, ()) = some (tellW w, ()) := by
 have f := p.f
 have hn := f.n16
 have hl := f.len
 have hll := lst_len f
 have hh := heldL_le q
 have u := usN_rng w.2.1 w.2.1.2.1.length
 have w1 := wsum_nn w.2.1 ((lst w.2.1).filter (bk w.2.1))
 have w2 := wsum_le w.2.1 ((lst w.2.1).filter (bk w.2.1))
 have w3 := wsum_nn w.2.1 (heldO w)
 have w4 := wsum_le w.2.1 (heldO w)
 have l1 := filt_len f (bk w.2.1)
 have l2 : (heldO w).length ≤ 512 := filt_len f _
 have e1 := words15_eq f (l := (lst w.2.1).filter (bk w.2.1)) (rch_nodup w.2.1 (bk w.2.1)) (fun a ha => (mem_lst f).1 (List.mem_filter.1 ha).1)
 have e2 := words15_eq f (l := heldO w) (rch_nodup w.2.1 _) (fun a ha => (mem_lst f).1 (List.mem_filter.1 ha).1)
 have e3 : reach_From (w.2.1, heldL w.2.2.1, ()) = some (heldO w, ()) := from_eq f (by omega) q.hv
 simp only [cycle_Tell, cycle_Tell_r, used_eq f p.fr, reachBlack_eq f, Option.bind_some, e1, held_eq q.g.ms, e3, e2, tellW]
 rw [wi64_id (by omega) (by omega), wi64_id (by omega) (by omega), wi64_id (by omega) (by omega)]
theorem concatR_eq {a b : List Conf} (ha : a.length ≤ 1000000) (hb : b.length ≤ 1000) : slices_ConcatR ([a, b], ()) = some (a ++ b, ()) := by
 have w1 : wi64 1 = 1 := by kernel_rfl
 have w2 : wi64 2 = 2 := by kernel_rfl
 have wa : wi64 (a.length : Int) = a.length := wi64_id (by omega) (by omega)
 have wb : wi64 ((a.length : Int) + (b.length : Int)) = a.length + b.length := wi64_id (by omega) (by omega)
 have s0 : slices_ConcatR_s0 ([a, b], 0, [a, b], 2, 0, ()) = some (.next ([a, b], (a.length : Int), [a, b], 2, 1, ())) := by
  have n1 : ¬ ((a.length : Int) < 0) := by omega
  simp [slices_ConcatR_s0, slices_ConcatR_s0r, wa, w1, n1]
 have s1 : slices_ConcatR_s0 ([a, b], (a.length : Int), [a, b], 2, 1, ()) = some (.next ([a, b], ((a.length + b.length : Nat) : Int), [a, b], 2, 2, ())) := by
  have n1 : ¬ ((a.length : Int) + (b.length : Int) < 0) := by omega
  simp [slices_ConcatR_s0, slices_ConcatR_s0r, wb, w2, n1]
 have h0 : slices_ConcatR_l0 ([a, b], 0, [a, b], 2, 0, ()) = some (.out ([a, b], ((a.length + b.length : Nat) : Int), ())) := by
  unfold slices_ConcatR_l0
  refine iterL_run 2 (fun i => if i = 0 then ([a, b], 0, [a, b], 2, 0, ()) else if i = 1 then ([a, b], (a.length : Int), [a, b], 2, 1, ()) else ([a, b], ((a.length + b.length : Nat) : Int), [a, b], 2, 2, ())) (fun i hi => ?_) ?_ (by omega) rfl
  ·obtain rfl | rfl : i = 0 ∨ i = 1 := by omega
   ·exact s0
   ·exact s1
  ·simp only [slices_ConcatR_s0, slices_ConcatR_s0r]
   rfl
 have t0 : slices_ConcatR_s1 ([a, b], 2, 0, [], ()) = some (.next ([a, b], 2, 1, a, ())) := by
  have n1 : a.length * 40 ≤ 140737488355328 := by omega
  simp [slices_ConcatR_s1, slices_ConcatR_s1r, w1, n1]
 have t1 : slices_ConcatR_s1 ([a, b], 2, 1, a, ()) = some (.next ([a, b], 2, 2, a ++ b, ())) := by
  have n1 : (a.length + b.length) * 40 ≤ 140737488355328 := by omega
  simp [slices_ConcatR_s1, slices_ConcatR_s1r, w2, n1]
 have h1 : slices_ConcatR_l1 ([a, b], 2, 0, [], ()) = some (.out (a ++ b, ())) := by
  unfold slices_ConcatR_l1
  refine iterL_run 2 (fun i => if i = 0 then ([a, b], 2, 0, [], ()) else if i = 1 then ([a, b], 2, 1, a, ()) else ([a, b], 2, 2, a ++ b, ())) (fun i hi => ?_) ?_ (by omega) rfl
  ·obtain rfl | rfl : i = 0 ∨ i = 1 := by omega
   ·exact t0
   ·exact t1
  ·simp only [slices_ConcatR_s1, slices_ConcatR_s1r]
   rfl
 simp only [slices_ConcatR, slices_ConcatR_r, Bool.cond_decide]
 have e2 : (([a, b].length : Nat) : Int) = 2 := rfl
 rw [e2, h0, Option.bind_some]
 dsimp only
 have n0 : ¬ (((a.length + b.length : Nat) : Int) < 0) := by omega
 have n1 : (0 : Int) ≤ ((a.length + b.length : Nat) : Int) := by omega
 have n2 : (((a.length + b.length : Nat) : Int)).toNat * 40 ≤ 140737488355328 := by omega
 have w0 : wi64 (((a.length + b.length : Nat) : Int) - 0) = ((a.length + b.length : Nat) : Int) := by rw [wi64_id (by omega) (by omega)]; omega
 have w3 : wi64 ((a.length + b.length : Nat) : Int) = ((a.length + b.length : Nat) : Int) := wi64_id (by omega) (by omega)
 have e3 : ∀ l : List Conf, (l.drop 0).take 0 = [] := fun l => by simp
 rw [if_neg n0]
 simp only [e2, w0, w3, e3, h1, Option.bind_some]
 by_cases hz : ((a.length + b.length : Nat) : Int) > 0
 ·rw [if_pos hz, if_pos n1, if_pos n2, if_pos (Int.natCast_nonneg _)]
 ·rw [if_neg hz]
noncomputable def mkrW (w : WrldT) : WrldT × Int × Unit :=
 if w.2.2.2.2.1 = 0 then
  if w.2.2.2.2.2.1 = true then
   ((w.1, turnS w.2.1, w.2.2.1, markM w.1.2.2.2.1 w.1.2.2.2.2.1 w.2.2.1.length (heldL w.2.2.1 ++ pendL w.2.1 w.2.2.1), 1, false, wi64 (w.2.2.2.2.2.2.1 + 1), w.2.2.2.2.2.2.2), 3, ())
  else (w, 0, ())
 else if w.2.2.2.2.1 = 1 then
  if (stp w.2.1 w.2.2.2.1).2.2.1 = true then
   ((w.1, begS w.2.1, w.2.2.1, ((0, [], ()), [], [], 0, 0, 0, false, ()), 2, w.2.2.2.2.2.1, w.2.2.2.2.2.2.1, w.2.2.2.2.2.2.2.1 ++ [tellW w], ()), 4, ())
  else ((w.1, (stp w.2.1 w.2.2.2.1).1, w.2.2.1, (stp w.2.1 w.2.2.2.1).2.1, w.2.2.2.2), 1, ())
 else if w.2.2.2.2.1 = 2 then swpW w
 else (w, 0, ())
theorem marker_eq {w : WrldT} (q : GA w) (p : HP w.2.1) (h4 : Row4 (cachesW w.2.2.1)) (hc : mayP w.1) (hm : w.2.2.2.2.1 = 1 → MkP w.2.1 w.2.2.2.1) (hr : w.2.2.2.2.2.2.2.1.length ≤ 1000000) : cycle_Marker (w, ()) = some (mkrW w) := by
 have hms := q.g.ms.len
 simp only [cycle_Marker, cycle_Marker_r, ibeq, Bool.cond_decide]
 unfold mkrW
 by_cases c0 : w.2.2.2.2.1 = 0
 ·rw [if_pos c0.symm, if_pos c0]
  simp only [cycle_idle, cycle_idle_r]
  cases e : w.2.2.2.2.2.1 with
  | false => simp only [Bool.not_false, cond_true, Option.bind_some, if_neg (show ¬ (false = true) by simp)]
  | true =>
   have hb := begin_eq p.f q.g.ms (x := w.1.1) (y := w.1.2.1) (z := w.1.2.2.1) (g := w.1.2.2.2.1) (b := w.1.2.2.2.2.1) hc.2.2.2.2.2.2.1 hc.2.2.2.2.2.2.2.1 hc.2.2.2.2.2.2.2.2.1 (by have := hc.2.2.2.2.2.2.2.2.2; omega)
   have hw : ((w.1.1, w.1.2.1, w.1.2.2.1, w.1.2.2.2.1, w.1.2.2.2.2.1, ()) : Conf) = w.1 := rfl
   rw [hw] at hb
   simp only [Bool.not_true, cond_false, hb, Option.bind_some, if_true]
 ·rw [if_neg (fun h => c0 h.symm), if_neg c0]
  by_cases c1 : w.2.2.2.2.1 = 1
  ·rw [if_pos c1.symm, if_pos c1]
   simp only [cycle_marking, cycle_marking_r, step_eq p.f (hm c1), Option.bind_some]
   cases e : (stp w.2.1 w.2.2.2.1).2.2.1 with
   | false => simp only [Bool.not_false, cond_true, Option.bind_some, if_neg (show ¬ (false = true) by simp)]
   | true =>
    have hw : (((tellW w).1, (tellW w).2.1, (tellW w).2.2.1, (tellW w).2.2.2.1, (tellW w).2.2.2.2.1, ()) : Conf) = tellW w := rfl
    simp only [Bool.not_true, cond_false, tell_eq q p, Option.bind_some, hw, concatR_eq hr (show [tellW w].length ≤ 1000 by simp), sweepBegin_eq p.f, if_true]
  ·rw [if_neg (fun h => c1 h.symm), if_neg c1]
   by_cases c2 : w.2.2.2.2.1 = 2
   ·rw [if_pos c2.symm, if_pos c2, sweeper_eq p (by omega) h4]
    rfl
   ·rw [if_neg (fun h => c2 h.symm), if_neg c2]
end Go.Proofs.YtkjpakaidjpjgaaGreatDoor.Den
/- Pure laws: worlds alike with themselves; worlds copied. -/
namespace Go.Proofs.YtkjpakaidjpjgaaGreatDoor.Den
open Go
set_option linter.unusedVariables false
set_option linter.unusedSimpArgs false
set_option maxRecDepth 100000
structure SL (w : WrldT) : Prop where
 hw : w.2.1.1.length ≤ 1000
 hs : w.2.1.2.1.length ≤ 1000
 ml : w.2.2.1.length ≤ 1000
 st : ∀ m : MutT, m ∈ w.2.2.1 → m.1.length ≤ 1000
 gl : w.2.2.2.1.1.2.1.length ≤ 1000
 bl : w.2.2.2.1.2.1.length ≤ 1000
 il : ∀ g : Grey, g ∈ w.2.2.2.1.2.1 → g.2.1.length ≤ 1000
 rl : w.2.2.2.1.2.2.1.length ≤ 1000
 rp : w.2.2.2.2.2.2.2.1.length ≤ 1000
theorem same13_selfL {g : Grey} (h : g.2.1.length ≤ 1000) : r13_Same (g, g, ()) = some (true, ()) := by
 rw [same13_eq _ _ (by omega)]; simp
theorem same7_selfL {h : Heap} (h1 : h.1.length ≤ 1000) (h2 : h.2.1.length ≤ 1000) : r07_Same (h, h, ()) = some (true, ()) := by
 rw [same7_eq _ _ (by omega) (by omega)]; simp
theorem same17_selfL {m : MarkT} (hg : m.1.2.1.length ≤ 1000) (hb : m.2.1.length ≤ 1000) (hi : ∀ g : Grey, g ∈ m.2.1 → g.2.1.length ≤ 1000) (hv : m.2.2.1.length ≤ 1000) : r17_Same (m, m, ()) = some (true, ()) := by
 have key : r17_Same_l0 (0, m, m, ()) = some (.out ()) := by
  unfold r17_Same_l0
  refine iterL_run m.2.1.length (fun i => ((i : Int), m, m, ())) (fun i hi2 => ?_) ?_ (by omega) rfl
  ·have hm : m.2.1[i] ∈ m.2.1 := List.getElem_mem hi2
   simp only [r17_Same_s0, r17_Same_s0r, Bool.cond_decide, Int.toNat_natCast, get_d _ _ _ hi2, same13_selfL (hi _ hm), Option.bind_some]
   rw [if_pos (by omega), if_pos (by omega), if_pos (by omega), if_pos (by omega), if_pos (by omega), wi64_id (by omega) (by omega)]
   rfl
  ·simp only [r17_Same_s0, r17_Same_s0r, Bool.cond_decide]
   rw [if_neg (by omega)]
 have e : (!(m.2.2.2.2.2.2.1 == m.2.2.2.2.2.2.1)) = false := by simp
 simp only [r17_Same, r17_Same_r, key, Option.bind_some, ibne, Bool.cond_decide, not_true, if_false, e, cond_false, same13_selfL hg, same01_self hv, Bool.not_true]
theorem zip_self (l : List Int) : ((List.zip l l).all fun p => p.1 == p.2) = true := by
 induction l with
 | nil => rfl
 | cons a l ih => simpa using ih
theorem same18_self {m : MutT} (h : m.1.length ≤ 1000) : r18_Same (m, m, ()) = some (true, ()) := by
 simp only [r18_Same, r18_Same_r, same01_self h, Option.bind_some, beq_self_eq_true, Bool.and_self, cond_true, zip_self]
theorem sames18_self {ms : List MutT} (hl : ms.length ≤ 1000) (h : ∀ m : MutT, m ∈ ms → m.1.length ≤ 1000) : r18_Sames (ms, ms, ()) = some (true, ()) := by
 have key : r18_Sames_l0 (ms, ms, 0, ()) = some (.out ()) := by
  unfold r18_Sames_l0
  refine iterL_run ms.length (fun i => (ms, ms, (i : Int), ())) (fun i hi => ?_) ?_ (by omega) rfl
  ·have hm : ms[i] ∈ ms := List.getElem_mem hi
   simp only [r18_Sames_s0, r18_Sames_s0r, Bool.cond_decide, Int.toNat_natCast, get_d _ _ _ hi, same18_self (h _ hm), Option.bind_some]
   rw [if_pos (by omega), if_pos (by omega), if_pos (by omega), if_pos (by omega), if_pos (by omega), wi64_id (by omega) (by omega)]
   rfl
  ·simp only [r18_Sames_s0, r18_Sames_s0r, Bool.cond_decide]
   rw [if_neg (by omega)]
 simp only [r18_Sames, r18_Sames_r, key, Option.bind_some, bne_self_eq_false, cond_false]
theorem same20_self {w : WrldT} (q : SL w) : r20_Same (w, w, ()) = some (true, ()) := by
 have hr := q.rp
 have key : r20_Same_l0 (0, w, w, ()) = some (.out ()) := by
  unfold r20_Same_l0
  refine iterL_run w.2.2.2.2.2.2.2.1.length (fun i => ((i : Int), w, w, ())) (fun i hi => ?_) ?_ (by omega) rfl
  ·simp only [r20_Same_s0, r20_Same_s0r, Bool.cond_decide, beq_self_eq_true, Bool.and_self, Bool.not_true, cond_false]
   rw [if_pos (by omega), if_pos (by omega), if_pos (by omega), if_pos (by omega), if_pos (by omega), wi64_id (by omega) (by omega)]
   rfl
  ·simp only [r20_Same_s0, r20_Same_s0r, Bool.cond_decide]
   rw [if_neg (by omega)]
 simp only [r20_Same, r20_Same_r, beq_self_eq_true, bne_self_eq_false, Bool.and_self, Bool.not_true, cond_false, same7_selfL q.hw q.hs, sames18_self q.ml q.st, same17_selfL q.gl q.bl q.il q.rl, key, Option.bind_some]
theorem copied18_eq {ms : List MutT} (hl : ms.length ≤ 1000) (h : ∀ m : MutT, m ∈ ms → m.1.length ≤ 1000) : r18_Copied (ms, ()) = some (ms, ()) := by
 have key : r18_Copied_l0 (ms, 0, [], ()) = some (.out (ms, ())) := by
  unfold r18_Copied_l0
  refine iterL_run ms.length (fun i => (ms, (i : Int), ms.take i, ())) (fun i hi => ?_) ?_ (by omega) rfl
  ·have hm := h _ (List.getElem_mem hi)
   have hk : (ms.take i).length = i := by rw [List.length_take]; omega
   simp only [r18_Copied_s0, r18_Copied_s0r, Bool.cond_decide, Int.toNat_natCast, get_d _ _ _ hi, hk]
   rw [if_pos (by omega), if_pos (by omega), if_pos (by omega), if_pos (by omega), if_pos (by omega), if_pos (by omega), if_pos (by omega), wi64_id (by omega) (by omega), ← List.take_append_getElem hi]
   rfl
  ·simp only [r18_Copied_s0, r18_Copied_s0r, Bool.cond_decide]
   rw [if_neg (by omega), List.take_length]
 simp only [r18_Copied, r18_Copied_r, key, Option.bind_some]
theorem copied20_eq {w : WrldT} (q : SL w) : r20_Copied (w, ()) = some (w, ()) := by
 have hb := q.bl
 have key : r20_Copied_l0 (0, w, (0, 0, 0, 0, 0, ()), (false, ()), 0, (), (0, 0, 0, false, ()), 0, false, 0, (), w.1, w.2.1.2.2, w.2.2.2.1.1.1, w.2.2.2.1.1.2.2, w.2.2.2.1.2.2.2, w.2.2.2.2.1, w.2.2.2.2.2.1, w.2.2.2.2.2.2.1, w.2.2.2.2.2.2.2.2, w.2.1.1, w.2.1.2.1, w.2.2.1, w.2.2.2.2.2.2.2.1, w.2.2.2.1.2.2.1, w.2.2.2.1.1.2.1, [], ()) =
   some (.out ((0, 0, 0, 0, 0, ()), (false, ()), 0, (), (0, 0, 0, false, ()), 0, false, 0, (), w.1, w.2.1.2.2, w.2.2.2.1.1.1, w.2.2.2.1.1.2.2, w.2.2.2.1.2.2.2, w.2.2.2.2.1, w.2.2.2.2.2.1, w.2.2.2.2.2.2.1, w.2.2.2.2.2.2.2.2, w.2.1.1, w.2.1.2.1, w.2.2.1, w.2.2.2.2.2.2.2.1, w.2.2.2.1.2.2.1, w.2.2.2.1.1.2.1, w.2.2.2.1.2.1, ())) := by
  unfold r20_Copied_l0
  refine iterL_run w.2.2.2.1.2.1.length (fun i => ((i : Int), w, (0, 0, 0, 0, 0, ()), (false, ()), 0, (), (0, 0, 0, false, ()), 0, false, 0, (), w.1, w.2.1.2.2, w.2.2.2.1.1.1, w.2.2.2.1.1.2.2, w.2.2.2.1.2.2.2, w.2.2.2.2.1, w.2.2.2.2.2.1, w.2.2.2.2.2.2.1, w.2.2.2.2.2.2.2.2, w.2.1.1, w.2.1.2.1, w.2.2.1, w.2.2.2.2.2.2.2.1, w.2.2.2.1.2.2.1, w.2.2.2.1.1.2.1, w.2.2.2.1.2.1.take i, ())) (fun i hi => ?_) ?_ (by omega) rfl
  ·have hm := q.il _ (List.getElem_mem hi)
   have hk : (w.2.2.2.1.2.1.take i).length = i := by rw [List.length_take]; omega
   simp only [r20_Copied_s0, r20_Copied_s0r, Bool.cond_decide, Int.toNat_natCast, get_d _ _ _ hi, hk]
   rw [if_pos (by omega), if_pos (by omega), if_pos (by omega), if_pos (by omega), if_pos (by omega), if_pos (by omega), if_pos (by omega), wi64_id (by omega) (by omega), ← List.take_append_getElem hi]
   rfl
  ·simp only [r20_Copied_s0, r20_Copied_s0r, Bool.cond_decide]
   rw [if_neg (by omega), List.take_length]
 have h1 := q.hw
 have h2 := q.hs
 have h3 := q.rp
 have h4 := q.rl
 have h5 := q.gl
 simp only [r20_Copied, r20_Copied_r, copied18_eq q.ml q.st, Option.bind_some, Bool.cond_decide, key]
 rw [if_pos (by omega), if_pos (by omega), if_pos (by omega), if_pos (by omega), if_pos (by omega)]
end Go.Proofs.YtkjpakaidjpjgaaGreatDoor.Den
/- Pure laws: worlds that fit. -/
namespace Go.Proofs.YtkjpakaidjpjgaaGreatDoor.Den
open Go
set_option linter.unusedVariables false
set_option linter.unusedSimpArgs false
set_option maxRecDepth 100000
theorem awake20 : w20_awake () = some (true, ()) := by kernel_rfl
structure WF (w : WrldT) : Prop where
 q : GA w
 p : HP w.2.1
 h4 : Row4 (cachesW w.2.2.1)
 hc : mayP w.1
 hm : w.2.2.2.2.1 = 1 → MkP w.2.1 w.2.2.2.1
 ph : 0 ≤ w.2.2.2.2.1 ∧ w.2.2.2.2.1 ≤ 2
 wl : w.2.1.1.length ≤ 520
 rp : w.2.2.2.2.2.2.2.1.length ≤ 60
theorem row4_of {ms : List MutT} (g : Good (.sl cMut) ms) : Row4 (cachesW ms) := by
 intro r hr
 obtain ⟨m, hm, rfl⟩ := List.mem_map.1 hr
 exact (g.2 m hm).2.2.2.2.2.1.1
theorem wf_of {w : WrldT} (gw : Good cWrld w) (q : GA w) (hw : w.2.1.1.length ≤ 160) (hr : w.2.2.2.2.2.2.2.1.length ≤ 50) (hf : formW w = true) : WF w := by
 have hf2 := hf
 unfold formW at hf
 simp only [Bool.and_eq_true, decide_eq_true_eq] at hf
 have gk : Good cMarker w.2.2.2.1 := gw.2.2.2.1
 refine ⟨q, hp_ofG gw.2.1 hf.2.1, row4_of gw.2.2.1, hf.1, fun e => ?_, hf.2.2.2.2.1, by omega, by omega⟩
 have h2 := hf.2.2.2.2.2.2.2
 unfold mkB at h2
 rw [if_pos e] at h2
 simp only [Bool.and_eq_true] at h2
 have := q.bl
 have := q.rl
 exact MkP.of gk h2.1 (by omega) (by omega)
theorem fits20_eq {w : WrldT} (gw : Good cWrld w) : ∃ b, w20_fits (w, ()) = some (b, ()) ∧ (b = true → WF w ∧ formW w = true) := by
 obtain ⟨b, eb, hb⟩ := few20_eq gw
 simp only [w20_fits, w20_fits_r, eb, Option.bind_some]
 cases b with
 | false => exact ⟨false, rfl, fun h => by cases h⟩
 | true =>
  obtain ⟨q, hw, hr⟩ := hb rfl
  simp only [cond_true, form20_eq q.g, Option.bind_some]
  exact ⟨_, rfl, fun h => ⟨wf_of gw q hw hr h, h⟩⟩
theorem WF.sl {w : WrldT} (F : WF w) : SL w := by
 have h1 := F.wl
 have h2 := F.rp
 have h3 := F.p.f.n16
 have q := F.q
 exact ⟨by omega, by omega, by have := q.g.ms.len; omega, fun m hm => by have := q.g.ms.st m hm; omega, by have := q.gl; omega, by have := q.bl; omega, fun g hg => by have := q.il g hg; omega, by have := q.rl; omega, by omega⟩
theorem WF.marker {w : WrldT} (F : WF w) : cycle_Marker (w, ()) = some (mkrW w) := marker_eq F.q F.p F.h4 F.hc F.hm (by have := F.rp; omega)
theorem WF.sweeper {w : WrldT} (F : WF w) : cycle_Sweeper (w, ()) = some (swpW w) := sweeper_eq F.p (by have := F.q.g.ms.len; omega) F.h4
theorem swp_two {w : WrldT} (F : WF w) (e : w.2.2.2.2.1 = 2) : ∃ (a : WrldT) (x : Int), swpW w = (a, x, ()) ∧ (x = 5 ∨ x = 1) ∧ SL a ∧ a.2.2.2.2.2.2 = w.2.2.2.2.2.2 := by
 obtain ⟨h1, h2⟩ := swpH_len F.p (cachesW w.2.2.1)
 have S := F.sl
 unfold swpW
 rw [if_pos e]
 split
 ·exact ⟨_, _, rfl, .inl rfl, ⟨by rw [h2]; exact S.hw, by rw [h1]; exact S.hs, S.ml, S.st, S.gl, S.bl, S.il, S.rl, S.rp⟩, rfl⟩
 ·exact ⟨_, _, rfl, .inr rfl, ⟨by rw [h2]; exact S.hw, by rw [h1]; exact S.hs, S.ml, S.st, S.gl, S.bl, S.il, S.rl, S.rp⟩, rfl⟩
theorem mkr_cases {w : WrldT} (ph : 0 ≤ w.2.2.2.2.1 ∧ w.2.2.2.2.1 ≤ 2) :
  (w.2.2.2.2.1 = 2 ∧ mkrW w = swpW w) ∨ (w.2.2.2.2.1 = 0 ∧ w.2.2.2.2.2.1 = false ∧ mkrW w = (w, 0, ())) ∨
  (w.2.2.2.2.1 = 0 ∧ w.2.2.2.2.2.1 = true ∧ ∃ a : WrldT, mkrW w = (a, 3, ()) ∧ a.2.2.2.2.2.2.1 = wi64 (w.2.2.2.2.2.2.1 + 1) ∧ a.2.2.2.2.2.2.2.1 = w.2.2.2.2.2.2.2.1) ∨
  (w.2.2.2.2.1 = 1 ∧ ∃ a : WrldT, mkrW w = (a, 1, ()) ∧ a.2.2.2.2.2.2.1 = w.2.2.2.2.2.2.1 ∧ a.2.2.2.2.2.2.2.1 = w.2.2.2.2.2.2.2.1) ∨
  (w.2.2.2.2.1 = 1 ∧ ∃ (a : WrldT) (r : Conf), mkrW w = (a, 4, ()) ∧ a.2.2.2.2.2.2.1 = w.2.2.2.2.2.2.1 ∧ a.2.2.2.2.2.2.2.1 = w.2.2.2.2.2.2.2.1 ++ [r] ∧ a.2.2.2.2.1 = 2) := by
 unfold mkrW
 by_cases c0 : w.2.2.2.2.1 = 0
 ·rw [if_pos c0]
  cases e : w.2.2.2.2.2.1 with
  | false => exact .inr (.inl ⟨c0, rfl, rfl⟩)
  | true => exact .inr (.inr (.inl ⟨c0, rfl, _, if_pos rfl, rfl, rfl⟩))
 ·by_cases c1 : w.2.2.2.2.1 = 1
  ·rw [if_neg c0, if_pos c1]
   by_cases e : (stp w.2.1 w.2.2.2.1).2.2.1 = true
   ·rw [if_pos e]
    exact .inr (.inr (.inr (.inr ⟨c1, _, _, rfl, rfl, rfl, rfl⟩)))
   ·rw [if_neg e]
    exact .inr (.inr (.inr (.inl ⟨c1, _, rfl, rfl, rfl⟩)))
  ·rw [if_neg c0, if_neg c1, if_pos (show w.2.2.2.2.1 = 2 by omega)]
   exact .inl ⟨by omega, rfl⟩
end Go.Proofs.YtkjpakaidjpjgaaGreatDoor.Den
