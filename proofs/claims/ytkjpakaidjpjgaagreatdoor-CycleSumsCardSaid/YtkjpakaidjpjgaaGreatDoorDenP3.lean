/- Pure laws. -/
import Derived.Test.YtkjpakaidjpjgaaGreatDoorDenP2
import Derived.Test.YtkjpakaidjpjgaaGreatDoorDenP1
/- Pure laws: is a heap sound? -/
namespace Go.Proofs.YtkjpakaidjpjgaaGreatDoor.Den
open Go
set_option linter.unusedVariables false
set_option linter.unusedSimpArgs false
set_option maxRecDepth 100000
def clrB (h : Heap) (a n : Nat) : Bool := ((h.1.drop a).take n).all fun x => decide (x = 0)
theorem clr_at {h : Heap} {a n : Nat} (hl : a + n ≤ h.1.length) {i : Nat} (hi : i < ((h.1.drop a).take n).length) : ((h.1.drop a).take n)[i] = h.1.getD (a + i) 0 := by
 rw [List.length_take, List.length_drop] at hi
 rw [List.getElem_take, List.getElem_drop, get_d _ _ _ (by omega)]
theorem clr_len {h : Heap} {a n : Nat} (hl : a + n ≤ h.1.length) : ((h.1.drop a).take n).length = n := by
 rw [List.length_take, List.length_drop]; omega
theorem nought_eq {h : Heap} {a n : Nat} (hl : a + n ≤ h.1.length) (h5 : h.1.length ≤ 512) : r09_nought (h, (a : Int), (n : Int), ()) = some (clrB h a n, ()) := by
 have hn := clr_len hl
 have key : ScanR (((h.1.drop a).take n).any fun x => !decide (x = 0)) ((h.1.drop a).take n).length (r09_nought_l0 ((a : Int), (n : Int), 0, h, ())) () (fun _ => (false, ())) := by
  unfold r09_nought_l0
  refine scan_any (fun i => ((a : Int), (n : Int), (i : Int), h, ())) (fun i hi => ?_) ?_ (by omega) rfl
  ·simp only [r09_nought_s0, r09_nought_s0r, Bool.cond_decide, ibne]
   rw [if_pos (show (i : Int) < (n : Int) by omega), wi64_id (n := (a : Int) + (i : Int)) (by omega) (by omega), if_pos (show (0 : Int) ≤ (a : Int) + (i : Int) by omega), if_pos (show (a : Int) + (i : Int) < (h.1.length : Int) by omega), wi64_id (n := (i : Int) + 1) (by omega) (by omega), show ((a : Int) + (i : Int)).toNat = a + i by omega, ← clr_at hl hi]
   by_cases e : ((h.1.drop a).take n)[i] = 0
   ·rw [if_neg (fun hh => hh e), if_neg (by simp [e])]; rfl
   ·rw [if_pos e, if_pos (by simpa using e)]
  ·simp only [r09_nought_s0, r09_nought_s0r, Bool.cond_decide]
   rw [if_neg (show ¬ ((((h.1.drop a).take n).length : Int) < (n : Int)) by omega)]
 rw [any_not] at key
 simp only [r09_nought, r09_nought_r]
 rcases key with ⟨e1, e⟩ | ⟨e1, i, hi, e⟩
 ·simp only [Bool.not_eq_false'] at e1
  simp only [e, Option.bind_some, clrB, e1]
 ·simp only [Bool.not_eq_true'] at e1
  simp only [e, Option.bind_some, clrB, e1]
theorem pg_class {h : Heap} (f : FormP h) {p : Nat} (hp : p < h.2.1.length) : ∃ w b : Nat, cw (h.2.1.getD p sz).2.1 = w ∧ cb (h.2.1.getD p sz).2.1 = b ∧ ((w = 2 ∧ b = 16) ∨ (w = 4 ∧ b = 8) ∨ (w = 8 ∧ b = 4) ∨ (w = 16 ∧ b = 2)) ∧ w * b = 32 := by
 have hm : h.2.1.getD p sz ∈ h.2.1 := by rw [get_d _ _ _ hp]; exact List.getElem_mem hp
 have hr := f.right _ hm
 have hc : 0 ≤ (h.2.1.getD p sz).2.1 ∧ (h.2.1.getD p sz).2.1 ≤ 3 := by
  by_cases hu : (h.2.1.getD p sz).1 = 0
  ·unfold rightB at hr
   rw [if_pos hu] at hr
   have := of_decide_eq_true hr
   omega
  ·exact f.span hm hu
 rcases class4 hc.1 hc.2 with ⟨a, c⟩ | ⟨a, c⟩ | ⟨a, c⟩ | ⟨a, c⟩
 ·exact ⟨2, 16, a, c, by omega, rfl⟩
 ·exact ⟨4, 8, a, c, by omega, rfl⟩
 ·exact ⟨8, 4, a, c, by omega, rfl⟩
 ·exact ⟨16, 2, a, c, by omega, rfl⟩
theorem pg_free {h : Heap} (q : HP h) {p : Nat} (hp : p < h.2.1.length) : 0 ≤ (h.2.1.getD p sz).2.2.1 ∧ (h.2.1.getD p sz).2.2.1 < 4294967296 := by
 have hm : h.2.1.getD p sz ∈ h.2.1 := by rw [get_d _ _ _ hp]; exact List.getElem_mem hp
 have h0 := q.fr _ hm
 have := rightB_free (q.f.right _ hm) h0
 omega
def pgW (h : Heap) (p : Nat) : Nat := (cw (h.2.1.getD p sz).2.1).toNat
def pgN (h : Heap) (p : Nat) : Nat := (cb (h.2.1.getD p sz).2.1).toNat
def blA (h : Heap) (p i : Nat) : Nat := 32 * p + i * pgW h p
def freB (h : Heap) (p i : Nat) : Bool := bit (h.2.1.getD p sz).2.2.1 i
def stP (h : Heap) (p : Nat) : Int := (h.2.1.getD p sz).1
structure Blk (h : Heap) (p i w b : Nat) : Prop where
 w_ : pgW h p = w
 b_ : pgN h p = b
 cw_ : cw (h.2.1.getD p sz).2.1 = w
 cb_ : cb (h.2.1.getD p sz).2.1 = b
 a_ : blA h p i = 32 * p + i * w
 in_ : i * w + w ≤ 32
 two : 2 ≤ w
 wb : (w = 2 ∧ b = 16) ∨ (w = 4 ∧ b = 8) ∨ (w = 8 ∧ b = 4) ∨ (w = 16 ∧ b = 2)
 md : (i * w) % w = 0
theorem blk_of {h : Heap} (f : FormP h) {p : Nat} (hp : p < h.2.1.length) : ∃ w b : Nat, pgW h p = w ∧ pgN h p = b ∧ cb (h.2.1.getD p sz).2.1 = b ∧ b ≤ 16 ∧ ∀ i, i < b → Blk h p i w b := by
 obtain ⟨w, b, e1, e2, e3, e4⟩ := pg_class f hp
 have hw : pgW h p = w := by unfold pgW; rw [e1]; rfl
 have hb : pgN h p = b := by unfold pgN; rw [e2]; rfl
 refine ⟨w, b, hw, hb, e2, by omega, fun i hi => ⟨hw, hb, e1, e2, by unfold blA; rw [hw], ?_, by omega, e3, Nat.mul_mod_left i w⟩⟩
 rw [← Nat.succ_mul, ← e4, Nat.mul_comm w b]
 exact Nat.mul_le_mul_right _ hi
theorem at_prog {p i w : Nat} (hp : p ≤ 16) (hk : i * w ≤ 32) : wi64 ((wi64 ((p : Int) * 32)) + (wi64 ((i : Int) * (w : Int)))) = ((32 * p + i * w : Nat) : Int) := by
 rw [show (i : Int) * (w : Int) = ((i * w : Nat) : Int) from (Int.natCast_mul i w).symm]
 generalize i * w = k at hk
 rw [wi64_id (n := (p : Int) * 32) (by omega) (by omega), wi64_id (n := (k : Int)) (by omega) (by omega), wi64_id (by omega) (by omega)]
 omega
theorem at_ref {p i w : Nat} (hp : p ≤ 16) (hk : i * w ≤ 32) : wi64 ((wi64 (32 * (p : Int))) + (wi64 ((i : Int) * (w : Int)))) = ((32 * p + i * w : Nat) : Int) := by
 rw [show (i : Int) * (w : Int) = ((i * w : Nat) : Int) from (Int.natCast_mul i w).symm]
 generalize i * w = k at hk
 rw [wi64_id (n := 32 * (p : Int)) (by omega) (by omega), wi64_id (n := (k : Int)) (by omega) (by omega), wi64_id (by omega) (by omega)]
 omega
def filB (h : Heap) (p i : Nat) : Bool := if freB h p i = true then clrB h (blA h p i) (pgW h p) else okA h (blA h p i) && decide ((og h (blA h p i)).1.2.2.1 = (h.2.1.getD p sz).2.1)
def behB (h : Heap) (p i : Nat) : Bool := freB h p i || clrB h (blA h p i + 1 + (cnt h (blA h p i)).toNat) (pgW h p - 1 - (cnt h (blA h p i)).toNat)
def refB (h : Heap) (p i : Nat) : Bool := !(decide (stP h p = 1) || bk h (blA h p i)) || (refsO h (blA h p i)).all (okA h)
def pgB (h : Heap) (P : Nat → Nat → Bool) (p : Nat) : Bool := (List.range (pgN h p)).all fun i => decide (stP h p = 0) || P p i
def pgsB (h : Heap) (P : Nat → Nat → Bool) : Bool := (List.range h.2.1.length).all (pgB h P)
def frsB (h : Heap) : Bool := (List.range h.2.1.length).all fun p => !decide (stP h p = 0) || clrB h (32 * p) 32
def filledB (h : Heap) : Bool := frsB h && pgsB h (filB h)
theorem pgB_all {h : Heap} {P : Nat → Nat → Bool} {p : Nat} : pgB h P p = true ↔ (stP h p ≠ 0 → ∀ i, i < pgN h p → P p i = true) := by
 unfold pgB
 rw [List.all_eq_true]
 constructor
 ·intro h0 hs i hi
  have := h0 i (List.mem_range.2 hi)
  simpa [hs] using this
 ·intro h0 i hi
  by_cases e : stP h p = 0
  ·simp [e]
  ·simp [h0 e i (List.mem_range.1 hi)]
theorem ok_cnt {h : Heap} (f : FormP h) {a : Int} (ho : okA h a = true) : 0 ≤ cnt h a ∧ cnt h a < cw (og h a).1.2.2.1 := by
 have hh := og_ok ho
 have hk := hh.2.1
 have e : og h a = (hd (h.1.getD a.toNat 0), true, ()) := hh.2.2.2
 unfold cnt
 rw [e]
 show 0 ≤ h.1.getD a.toNat 0 % 16 ∧ h.1.getD a.toNat 0 % 16 < cw (h.1.getD a.toNat 0 / 16 % 4)
 unfold hok at hk
 simp only [Bool.and_eq_true, decide_eq_true_eq] at hk
 have h4 : h.1.getD a.toNat 0 / 16 % 4 = 0 ∨ h.1.getD a.toNat 0 / 16 % 4 = 1 ∨ h.1.getD a.toNat 0 / 16 % 4 = 2 ∨ h.1.getD a.toNat 0 / 16 % 4 = 3 := by omega
 rcases h4 with e4 | e4 | e4 | e4 <;> rw [e4] at hk ⊢ <;> simp [cw] at hk ⊢ <;> omega
theorem og_no {h : Heap} {a : Int} (ho : okA h a = false) : og h a = (hz, false, ()) := by
 unfold okA og at ho
 unfold og
 split
 ·rename_i e
  rw [if_pos e] at ho
  cases ho
 ·rfl
theorem cnt_no {h : Heap} {a : Int} (ho : okA h a = false) : cnt h a = 0 := by unfold cnt; rw [og_no ho]; rfl
theorem refs_no {h : Heap} {a : Int} (ho : okA h a = false) : refsO h a = [] := by unfold refsO; rw [cnt_no ho]; rfl
def behindB (h : Heap) : Bool := pgsB h (behB h)
def referB (h : Heap) : Bool := pgsB h (refB h)
theorem clr_word {h : Heap} {a n i : Nat} (hl : a + n ≤ h.1.length) (hc : clrB h a n = true) (hi : i < n) : h.1.getD (a + i) 0 = 0 := by
 have hn := clr_len hl
 have := List.all_eq_true.1 hc _ (List.getElem_mem (by omega : i < ((h.1.drop a).take n).length))
 rw [clr_at hl (by omega)] at this
 exact of_decide_eq_true this
theorem refs_len {h : Heap} (f : FormP h) (a : Int) : (refsO h a).length ≤ 15 := by
 cases ho : okA h a with
 | false => rw [refs_no ho]; simp
 | true =>
  have h1 := rfN_len h a (cnt h a).toNat
  have h2 := (og_rng f ho).2.2.2.2
  unfold refsO
  unfold cnt at h1 ⊢
  omega
def chkH (h : Heap) : Int := if formB h = true then if filledB h = true then if behindB h = true then if referB h = true then 0 else 4 else 3 else 2 else 1
theorem hp_ofG {h : Heap} (g : Good cHeap h) (hb : formB h = true) : HP h := ⟨form_of g hb, fun s hs => (good_span g hs).1⟩
end Go.Proofs.YtkjpakaidjpjgaaGreatDoor.Den
/- Pure laws: is a heap sound, by the document; is a world whole. -/
namespace Go.Proofs.YtkjpakaidjpjgaaGreatDoor.Den
open Go
set_option linter.unusedVariables false
set_option linter.unusedSimpArgs false
set_option maxRecDepth 100000
theorem allr_succ (P : Nat → Bool) (n : Nat) : (List.range (n + 1)).all P = ((List.range n).all P && P n) := by
 rw [List.range_succ, List.all_append]; simp
theorem allr_false {P : Nat → Bool} {n i : Nat} (hi : i < n) (h : P i = false) : ¬ (List.range n).all P = true := by
 intro ha
 rw [List.all_eq_true.1 ha i (List.mem_range.2 hi)] at h
 cases h
theorem pgB_use {h : Heap} {P : Nat → Nat → Bool} {p : Nat} (hs : stP h p ≠ 0) : pgB h P p = (List.range (pgN h p)).all (P p) := by
 unfold pgB
 congr 1
 funext i
 rw [decide_eq_false hs, Bool.false_or]
theorem pgB_free {h : Heap} {P : Nat → Nat → Bool} {p : Nat} (hs : stP h p = 0) : pgB h P p = true := pgB_all.2 (fun h => absurd hs h)
theorem check_l0 {h : Heap} (q : HP h) {p : Nat} (hp : p < h.2.1.length) (hs : stP h p ≠ 0) (bad : Int) :
  r09_Check_l0 (bad, (p : Int), cw (h.2.1.getD p sz).2.1, 0, h, h.2.1.getD p sz, ()) = some (if pgB h (filB h) p = true then .out (if pgB h (behB h) p = true then bad else 3, (p : Int), h, ()) else .ret (2, ())) := by
 have f := q.f
 have hn := f.n16
 have hl := f.len
 obtain ⟨w, b, hw, hb, ec, b16, hB⟩ := blk_of f hp
 obtain ⟨f0, f1⟩ := pg_free q hp
 have ew : cw (h.2.1.getD p sz).2.1 = (w : Int) := by
  by_cases e : 0 < b
  ·exact (hB 0 e).cw_
  ·obtain ⟨w', b', e1, e2, e3, _⟩ := pg_class f hp
   unfold pgN at hb; rw [e2] at hb; omega
 rw [pgB_use hs, pgB_use hs, hb, ew]
 have key : ∃ l, r09_Check_l0 (bad, (p : Int), (w : Int), 0, h, h.2.1.getD p sz, ()) = some l ∧ l = (if (List.range b).all (filB h p) = true then .out (if (List.range b).all (behB h p) = true then bad else 3, (p : Int), h, ()) else .ret (2, ())) := by
  unfold r09_Check_l0
  refine iterL_rule (fun m x => ∃ i : Nat, i ≤ b ∧ m = b - i ∧ x = (if (List.range i).all (behB h p) = true then bad else 3, (p : Int), (w : Int), (i : Int), h, h.2.1.getD p sz, ()) ∧ (List.range i).all (filB h p) = true) ?_ _ b _ (by omega) ⟨0, by omega, rfl, rfl, rfl⟩
  rintro m x ⟨i, i1, rfl, rfl, hz⟩
  simp only [r09_Check_s0, r09_Check_s0r, Bool.cond_decide, blocks4_eq, Option.bind_some, ec, ibne]
  by_cases hi : i < b
  ·have B := hB i hi
   have hwb := B.wb
   have hin := B.in_
   have hB2 := B.two
   have ea : ((32 * p + i * w : Nat) : Int) = (blA h p i : Int) := by rw [B.a_]
   have eb : blA h p i + w ≤ h.1.length := by rw [B.a_]; omega
   rw [if_pos (show (i : Int) < (b : Int) by omega), has_eq f0 f1, Option.bind_some, decide_eq_true (p := (0 : Int) ≤ (i : Int) ∧ (i : Int) ≤ 31) (by omega), Bool.true_and, Int.toNat_natCast, at_ref (by omega) (by omega), ea]
   rw [wi64_id (n := (i : Int) + 1) (by omega) (by omega), nought_eq eb (by omega), objGet8_eq f]
   simp only [Option.bind_some]
   have hfr : bit (h.2.1.getD p sz).2.2.1 i = freB h p i := rfl
   rw [hfr]
   cases e : freB h p i with
   | true =>
    have hbe : behB h p i = true := by unfold behB; rw [e]; rfl
    simp only [cond_true]
    cases e2 : clrB h (blA h p i) w with
    | false =>
     have hfi : filB h p i = false := by unfold filB; rw [if_pos e, B.w_]; exact e2
     exact .inr ⟨_, rfl, by rw [if_neg (allr_false hi hfi)]⟩
    | true =>
     have hfi : filB h p i = true := by unfold filB; rw [if_pos e, B.w_]; exact e2
     exact .inl ⟨b - (i + 1), _, by omega, rfl, i + 1, by omega, rfl, by rw [allr_succ, hbe, Bool.and_true]; rfl, by rw [allr_succ, hz, hfi]; rfl⟩
   | false =>
    have hne : ¬ freB h p i = true := by rw [e]; simp
    simp only [cond_false]
    cases e2 : (og h (blA h p i)).2.1 with
    | false =>
     have hfi : filB h p i = false := by unfold filB okA; rw [if_neg hne, e2]; rfl
     exact .inr ⟨_, rfl, by rw [if_neg (allr_false hi hfi)]⟩
    | true =>
     simp only [Bool.not_true, cond_false]
     by_cases e3 : (og h (blA h p i)).1.2.2.1 = (h.2.1.getD p sz).2.1
     ·have hfi : filB h p i = true := by unfold filB okA; rw [if_neg hne, e2, decide_eq_true e3]; rfl
      have hc := ok_cnt f (a := (blA h p i : Int)) e2
      rw [e3, ew] at hc
      obtain ⟨c, hcc⟩ : ∃ c : Nat, cnt h (blA h p i) = c := ⟨_, (Int.toNat_of_nonneg hc.1).symm⟩
      have hcc2 : (og h (blA h p i)).1.2.2.2.1 = (c : Int) := hcc
      rw [hcc] at hc
      rw [if_neg (fun hh => hh e3)]
      simp only [hcc2]
      rw [wi64_id (n := (blA h p i : Int) + 1) (by omega) (by omega), wi64_id (n := (blA h p i : Int) + 1 + (c : Int)) (by omega) (by omega), wi64_id (n := (w : Int) - 1) (by omega) (by omega), wi64_id (n := (w : Int) - 1 - (c : Int)) (by omega) (by omega)]
      have en := nought_eq (h := h) (a := blA h p i + 1 + c) (n := w - 1 - c) (by omega) (by omega)
      rw [show ((blA h p i + 1 + c : Nat) : Int) = (blA h p i : Int) + 1 + (c : Int) by omega, show ((w - 1 - c : Nat) : Int) = (w : Int) - 1 - (c : Int) by omega] at en
      rw [en, Option.bind_some]
      have hbe : behB h p i = clrB h (blA h p i + 1 + c) (w - 1 - c) := by unfold behB; rw [e, hcc, B.w_, Int.toNat_natCast, Bool.false_or]
      cases e4 : clrB h (blA h p i + 1 + c) (w - 1 - c) with
      | true =>
       exact .inl ⟨b - (i + 1), _, by omega, rfl, i + 1, by omega, rfl, by rw [allr_succ, hbe, e4, Bool.and_true]; rfl, by rw [allr_succ, hz, hfi]; rfl⟩
      | false =>
       exact .inl ⟨b - (i + 1), _, by omega, rfl, i + 1, by omega, rfl, by rw [allr_succ, hbe, e4, Bool.and_false]; rfl, by rw [allr_succ, hz, hfi]; rfl⟩
     ·have hfi : filB h p i = false := by unfold filB okA; rw [if_neg hne, e2, decide_eq_false e3]; rfl
      rw [if_pos e3]
      exact .inr ⟨_, rfl, by rw [if_neg (allr_false hi hfi)]⟩
  ·obtain rfl : i = b := by omega
   rw [if_neg (show ¬ ((i : Int) < (i : Int)) by omega)]
   exact .inr ⟨_, rfl, by rw [if_pos hz]⟩
 obtain ⟨l, e, rfl⟩ := key
 exact e
def fulB (h : Heap) (p : Nat) : Bool := (!decide (stP h p = 0) || clrB h (32 * p) 32) && pgB h (filB h) p
theorem allr_and (P Q : Nat → Bool) : ∀ n, (List.range n).all (fun i => P i && Q i) = ((List.range n).all P && (List.range n).all Q)
 | 0 => rfl
 | n + 1 => by
  rw [allr_succ, allr_succ, allr_succ, allr_and P Q n]
  cases (List.range n).all P <;> cases (List.range n).all Q <;> cases P n <;> cases Q n <;> rfl
theorem filled_ful (h : Heap) : filledB h = (List.range h.2.1.length).all (fulB h) := by
 unfold filledB frsB pgsB fulB
 rw [allr_and]
theorem check_l1 {h : Heap} (q : HP h) : r09_Check_l1 (0, 0, h, ()) = some (if filledB h = true then .out (if behindB h = true then 0 else 3, h, ()) else .ret (2, ())) := by
 have f := q.f
 have hn := f.n16
 have hl := f.len
 rw [filled_ful]
 unfold behindB pgsB
 have key : ∃ l, r09_Check_l1 (0, 0, h, ()) = some l ∧ l = (if (List.range h.2.1.length).all (fulB h) = true then .out (if (List.range h.2.1.length).all (pgB h (behB h)) = true then 0 else 3, h, ()) else .ret (2, ())) := by
  unfold r09_Check_l1
  refine iterL_rule (fun m x => ∃ p : Nat, p ≤ h.2.1.length ∧ m = h.2.1.length - p ∧ x = (if (List.range p).all (pgB h (behB h)) = true then 0 else 3, (p : Int), h, ()) ∧ (List.range p).all (fulB h) = true) ?_ _ h.2.1.length _ (by omega) ⟨0, by omega, rfl, rfl, rfl⟩
  rintro m x ⟨p, p1, rfl, rfl, hz⟩
  simp only [r09_Check_s1, r09_Check_s1r, Bool.cond_decide, words4_eq, Option.bind_some, ibeq, Int.toNat_natCast]
  simp only [show ((0 : Int), (0 : Int), (0 : Int), ()) = sz from rfl]
  by_cases hp : p < h.2.1.length
  ·rw [if_pos (show (p : Int) < (h.2.1.length : Int) by omega), if_pos (show (0 : Int) ≤ (p : Int) by omega), if_pos (show (p : Int) < (h.2.1.length : Int) by omega)]
   by_cases hs : (h.2.1.getD p sz).1 = 0
   ·have hs' : stP h p = 0 := hs
    have e := nought_eq (h := h) (a := 32 * p) (n := 32) (by omega) (by omega)
    rw [show ((32 * p : Nat) : Int) = 32 * (p : Int) by omega, show ((32 : Nat) : Int) = (32 : Int) from rfl] at e
    rw [if_pos hs, wi64_id (n := 32 * (p : Int)) (by omega) (by omega), wi64_id (n := (p : Int) + 1) (by omega) (by omega), e, Option.bind_some]
    cases e2 : clrB h (32 * p) 32 with
    | false =>
     have hfi : fulB h p = false := by unfold fulB; rw [e2, decide_eq_true hs']; rfl
     exact .inr ⟨_, rfl, by rw [if_neg (allr_false hp hfi)]⟩
    | true =>
     have hfi : fulB h p = true := by unfold fulB; rw [e2, pgB_free hs']; simp
     have hbe : pgB h (behB h) p = true := pgB_free hs'
     exact .inl ⟨h.2.1.length - (p + 1), _, by omega, rfl, p + 1, by omega, rfl, by rw [allr_succ, hbe, Bool.and_true]; rfl, by rw [allr_succ, hz, hfi]; rfl⟩
   ·have hs' : stP h p ≠ 0 := hs
    rw [if_neg hs, check_l0 q hp hs', Option.bind_some]
    have hfi : fulB h p = pgB h (filB h) p := by unfold fulB; rw [decide_eq_false hs']; simp
    cases e2 : pgB h (filB h) p with
    | false => exact .inr ⟨_, rfl, by rw [if_neg (allr_false hp (hfi.trans e2))]⟩
    | true =>
     simp only [if_true]
     rw [wi64_id (n := (p : Int) + 1) (by omega) (by omega)]
     refine .inl ⟨h.2.1.length - (p + 1), _, by omega, rfl, p + 1, by omega, rfl, ?_, by rw [allr_succ, hz, hfi, e2]; rfl⟩
     rw [allr_succ]
     cases pgB h (behB h) p
     ·rw [Bool.and_false]; rfl
     ·rw [Bool.and_true]; rfl
  ·obtain rfl : p = h.2.1.length := by omega
   rw [if_neg (show ¬ ((h.2.1.length : Int) < (h.2.1.length : Int)) by omega)]
   exact .inr ⟨_, rfl, by rw [if_pos hz]⟩
 obtain ⟨l, e, rfl⟩ := key
 exact e
def rfdB (h : Heap) (a : Int) : Bool := !(decide ((spanOf h a).1 = 1) || bk h a) || (refsO h a).all (okA h)
theorem fnd_blkX {h : Heap} (f : FormP h) {a : Int} (hf : fndB h a = true) : ∃ p i : Nat, p < h.2.1.length ∧ stP h p ≠ 0 ∧ i < pgN h p ∧ (blA h p i : Int) = a ∧ spanOf h a = h.2.1.getD p sz := by
 have hr := fndB_rng hf
 obtain ⟨n, rfl⟩ : ∃ n : Nat, a = n := ⟨a.toNat, by omega⟩
 have hb := of_decide_eq_true hf
 have hp : n / 32 < h.2.1.length := by omega
 have hsp : spanOf h (n : Int) = h.2.1.getD (n / 32) sz := by unfold spanOf; congr 1
 rw [hsp] at hb
 obtain ⟨w, b, hw, hbb, ec, b16, hB⟩ := blk_of f hp
 obtain ⟨w', b', e1, e2, e3, e4⟩ := pg_class f hp
 have hww : w' = w := by unfold pgW at hw; rw [e1] at hw; omega
 have hbb' : b' = b := by rw [e2] at ec; omega
 subst hww hbb'
 have hm := hb.2.2.2
 rw [e1] at hm
 have hm' : n % w' = 0 := by omega
 have hi : n % 32 / w' < b' := by
  rcases e3 with ⟨rfl, rfl⟩ | ⟨rfl, rfl⟩ | ⟨rfl, rfl⟩ | ⟨rfl, rfl⟩ <;> omega
 refine ⟨n / 32, n % 32 / w', hp, hb.2.2.1, by omega, ?_, hsp⟩
 rw [(hB _ hi).a_]
 have : n % 32 / w' * w' = n % 32 := by
  rcases e3 with ⟨rfl, rfl⟩ | ⟨rfl, rfl⟩ | ⟨rfl, rfl⟩ | ⟨rfl, rfl⟩ <;> omega
 rw [this]
 omega
theorem blk_fndX {h : Heap} (f : FormP h) {p i : Nat} (hp : p < h.2.1.length) (hs : stP h p ≠ 0) (hi : i < pgN h p) : fndB h (blA h p i) = true ∧ spanOf h (blA h p i) = h.2.1.getD p sz := by
 obtain ⟨w, b, hw, hb, ec, b16, hB⟩ := blk_of f hp
 have B := hB i (by omega)
 have hin := B.in_
 have h2 := B.two
 have hsp : spanOf h (blA h p i) = h.2.1.getD p sz := by
  unfold spanOf
  rw [B.a_, show (((32 * p + i * w : Nat) : Int) / 32).toNat = p by omega]
 refine ⟨?_, hsp⟩
 unfold fndB
 rw [hsp, B.cw_, B.a_]
 refine decide_eq_true ⟨by omega, by omega, hs, ?_⟩
 have hm := B.md
 rcases B.wb with ⟨e, _⟩ | ⟨e, _⟩ | ⟨e, _⟩ | ⟨e, _⟩ <;> subst e <;> omega
theorem refer_lst {h : Heap} (f : FormP h) : referB h = (lst h).all (rfdB h) := by
 rw [Bool.eq_iff_iff]
 constructor
 ·intro hr
  rw [List.all_eq_true]
  intro a ha
  have ho := (mem_lst f).1 ha
  obtain ⟨p, i, hp, hs, hi, rfl, hsp⟩ := fnd_blkX f (okA_find ho)
  have := pgB_all.1 (List.all_eq_true.1 hr p (List.mem_range.2 hp)) hs i hi
  unfold rfdB
  rw [hsp]
  exact this
 ·intro hr
  unfold referB pgsB
  rw [List.all_eq_true]
  intro p hp
  have hp := List.mem_range.1 hp
  refine pgB_all.2 fun hs i hi => ?_
  obtain ⟨_, hsp⟩ := blk_fndX f hp hs hi
  cases ho : okA h (blA h p i) with
  | true =>
   have := List.all_eq_true.1 hr _ ((mem_lst f).2 ho)
   unfold rfdB at this
   rw [hsp] at this
   exact this
  | false =>
   unfold refB
   rw [refs_no ho]
   simp
theorem check_l2 {h : Heap} (f : FormP h) (i : Int) {l : List Int} (hl : l.length ≤ 100) : r09_Check_l2 (i, 0, h, lst h, l, ()) = some (if l.all (okA h) = true then .out (i, h, lst h, ()) else .ret (4, ())) := by
 have hll := lst_len f
 have key : ScanR (l.any fun a => !okA h a) l.length (r09_Check_l2 (i, 0, h, lst h, l, ())) (i, h, lst h, ()) (fun _ => (4, ())) := by
  unfold r09_Check_l2
  refine scan_any (fun k => (i, (k : Int), h, lst h, l, ())) (fun k hk => ?_) ?_ (by omega) rfl
  ·simp only [r09_Check_s2, r09_Check_s2r, Bool.cond_decide, Int.toNat_natCast, get_d _ _ _ hk, in8_eq _ _ (show (lst h).length < 9223372036854775807 by omega), Option.bind_some]
   rw [if_pos (by omega), if_pos (by omega), if_pos (by omega), wi64_id (n := (k : Int) + 1) (by omega) (by omega)]
   by_cases e : okA h l[k] = true
   ·rw [decide_eq_true ((mem_lst f).2 e), e]; rfl
   ·rw [decide_eq_false (fun hh => e ((mem_lst f).1 hh))]
    simp only [Bool.not_eq_true] at e
    rw [e]; rfl
  ·simp only [r09_Check_s2, r09_Check_s2r, Bool.cond_decide]
   rw [if_neg (by omega)]
 rw [any_not] at key
 rcases key with ⟨e1, e⟩ | ⟨e1, k, hk, e⟩
 ·simp only [Bool.not_eq_false'] at e1
  rw [e, if_pos e1]
 ·simp only [Bool.not_eq_true'] at e1
  rw [e, if_neg (by rw [e1]; simp)]
theorem check_l3 {h : Heap} (f : FormP h) : ScanR (!(lst h).all (rfdB h)) (lst h).length (r09_Check_l3 (0, h, lst h, ())) () (fun _ => (4, ())) := by
 have hn := f.n16
 have hl := f.len
 have hll := lst_len f
 rw [← any_not]
 unfold r09_Check_l3
 refine scan_any (fun k => ((k : Int), h, lst h, ())) (fun k hk => ?_) ?_ (by omega) rfl
 ·have ho := (mem_lst f).1 (List.getElem_mem hk)
  have hr := fndB_rng (og_ok ho).1
  simp only [r09_Check_s3, r09_Check_s3r, Bool.cond_decide, Int.toNat_natCast, get_d _ _ _ hk, ibne, black8_eq f, Option.bind_some]
  rw [Int.tdiv_eq_ediv_of_nonneg hr.1, wi64_id (n := (lst h)[k] / 32) (by omega) (by omega), wi64_id (n := (k : Int) + 1) (by omega) (by omega)]
  simp only [show ((0 : Int), (0 : Int), (0 : Int), ()) = sz from rfl]
  have hsp : h.2.1.getD ((lst h)[k] / 32).toNat sz = spanOf h (lst h)[k] := rfl
  rw [hsp]
  have e8 : r08_Refs (h, (lst h)[k], ()) = some (refsO h (lst h)[k], ()) := refs8_eq f ho
  have hrl := refs_len f (lst h)[k]
  simp only [e8, Option.bind_some, check_l2 f (k : Int) (l := refsO h (lst h)[k]) (by omega)]
  have p1 : (k : Int) < ((lst h).length : Int) := by omega
  have p2 : (0 : Int) ≤ (k : Int) := by omega
  have p3 : (0 : Int) ≤ (lst h)[k] / 32 := by omega
  have p4 : (lst h)[k] / 32 < (h.2.1.length : Int) := by omega
  simp only [if_pos p1, if_pos p2, if_pos p3, if_pos p4]
  by_cases e : (spanOf h (lst h)[k]).1 = 1
  ·have hx : rfdB h (lst h)[k] = (refsO h (lst h)[k]).all (okA h) := by unfold rfdB; rw [decide_eq_true e]; simp
   rw [if_neg (fun hh => hh e), hx]
   cases (refsO h (lst h)[k]).all (okA h)
   ·rfl
   ·simp only [if_true, Option.bind_some]
    rw [wi64_id (n := (k : Int) + 1) (by omega) (by omega)]
    rfl
  ·have hx : rfdB h (lst h)[k] = (!bk h (lst h)[k] || (refsO h (lst h)[k]).all (okA h)) := by unfold rfdB; rw [decide_eq_false e]; simp
   rw [if_pos e, hx]
   cases bk h (lst h)[k]
   ·rfl
   ·simp only [Bool.not_true, cond_false, Bool.false_or]
    cases (refsO h (lst h)[k]).all (okA h)
    ·rfl
    ·simp only [if_true, Option.bind_some]
     rw [wi64_id (n := (k : Int) + 1) (by omega) (by omega)]
     rfl
 ·simp only [r09_Check_s3, r09_Check_s3r, Bool.cond_decide]
  rw [if_neg (show ¬ (((lst h).length : Int) < ((lst h).length : Int)) by omega)]
theorem check9_eq {h : Heap} (g : Good cHeap h) : r09_Check (h, ()) = some (chkH h, ()) := by
 simp only [r09_Check, r09_Check_r, form_eq g, Option.bind_some, chkH]
 cases hb : formB h
 ·rfl
 have q := hp_ofG g hb
 simp only [Bool.not_true, cond_false, check_l1 q, Option.bind_some, if_true]
 cases filledB h
 ·rfl
 simp only [if_true]
 cases behindB h
 ·rfl
 simp only [if_true, ibne, Bool.cond_decide, list_eq q.f, Option.bind_some]
 rw [if_neg (by simp), refer_lst q.f]
 rcases check_l3 q.f with ⟨e1, e⟩ | ⟨e1, k, hk, e⟩
 ·simp only [Bool.not_eq_false'] at e1
  rw [e, e1]; rfl
 ·simp only [Bool.not_eq_true'] at e1
  rw [e, e1]; rfl
end Go.Proofs.YtkjpakaidjpjgaaGreatDoor.Den
/- Pure laws: audit, by the program and by the document. -/
namespace Go.Proofs.YtkjpakaidjpjgaaGreatDoor.Den
open Go
set_option linter.unusedVariables false
set_option linter.unusedSimpArgs false
set_option maxRecDepth 100000
def dcnt (h : Heap) : Nat := h.2.1.countP fun s => decide (s.1 = 2)
theorem dcnt_take (l : List Span) (i : Nat) (hi : i < l.length) : (l.take (i + 1)).countP (fun s => decide (s.1 = 2)) = (l.take i).countP (fun s => decide (s.1 = 2)) + if (l[i] : Span).1 = 2 then 1 else 0 := by
 rw [← List.take_append_getElem hi, List.countP_append, List.countP_cons, List.countP_nil]
 simp
theorem countP_take (l : List Span) (p : Span → Bool) (i : Nat) : (l.take i).countP p ≤ i := by
 have := List.countP_le_length (p := p) (l := l.take i)
 rw [List.length_take] at this
 omega
theorem dirty_eq {h : Heap} (hl : h.2.1.length ≤ 1000) : sweep_Dirty (h, ()) = some ((dcnt h : Int), ()) := by
 have key : sweep_Dirty_l0 (0, h.2.1, (h.2.1.length : Int), 0, ()) = some (.out ((dcnt h : Int), ())) := by
  unfold sweep_Dirty_l0
  refine iterL_run h.2.1.length (fun i => ((((h.2.1.take i).countP fun s => decide (s.1 = 2) : Nat) : Int), h.2.1, (h.2.1.length : Int), (i : Int), ())) (fun i hi => ?_) ?_ (by omega) rfl
  ·have hc := countP_take h.2.1 (fun s => decide (s.1 = 2)) i
   simp only [sweep_Dirty_s0, sweep_Dirty_s0r, sweep_dirty, sweep_dirty_r, Bool.cond_decide, Int.toNat_natCast, Option.bind_some, ibeq]
   simp only [show ((0 : Int), (0 : Int), (0 : Int), ()) = sz from rfl, get_d h.2.1 i sz hi]
   rw [if_pos (show (i : Int) < (h.2.1.length : Int) by omega), if_pos (show (0 : Int) ≤ (i : Int) by omega), if_pos (show (i : Int) < (h.2.1.length : Int) by omega), wi64_id (n := (i : Int) + 1) (by omega) (by omega), dcnt_take _ _ hi]
   by_cases e : (h.2.1[i] : Span).1 = 2
   ·rw [if_pos e, if_pos e, wi64_id (by omega) (by omega)]
    rfl
   ·rw [if_neg e, if_neg e]
    rfl
  ·simp only [sweep_Dirty_s0, sweep_Dirty_s0r, Bool.cond_decide]
   rw [if_neg (by omega), List.take_of_length_le (Nat.le_refl _)]
   rfl
 simp only [sweep_Dirty, sweep_Dirty_r, key, Option.bind_some]
def itV (g : Grey) : List Val := g.2.1.map fun a => (2, a, ())
def todoL (m : MarkT) : List Val := m.2.2.1 ++ (m.2.1.flatMap itV ++ itV m.1) ++ [(2, m.2.2.2.1, ())]
structure GA (w : WrldT) : Prop where
 g : GW w
 hv : ∀ v : Val, v ∈ heldL w.2.2.1 → -9223372036854775808 ≤ v.2.1 ∧ v.2.1 < 9223372036854775808
 tv : ∀ v : Val, v ∈ todoL w.2.2.2.1 → -9223372036854775808 ≤ v.2.1 ∧ v.2.1 < 9223372036854775808
 rl : w.2.2.2.1.2.2.1.length ≤ 700
 gl : w.2.2.2.1.1.2.1.length ≤ 20
 bl : w.2.2.2.1.2.1.length ≤ 10
 il : ∀ g ∈ w.2.2.2.1.2.1, g.2.1.length ≤ 20
theorem lst_rng {h : Heap} (f : FormP h) : ∀ a ∈ lst h, (0 : Int) ≤ a ∧ a < 512 := by
 intro a ha
 have := fndB_rng (og_ok ((mem_lst f).1 ha)).1
 have := f.n16
 omega
end Go.Proofs.YtkjpakaidjpjgaaGreatDoor.Den
/- Pure laws: which rule is broken, by the program and by the document. -/
namespace Go.Proofs.YtkjpakaidjpjgaaGreatDoor.Den
open Go
set_option linter.unusedVariables false
set_option linter.unusedSimpArgs false
set_option maxRecDepth 100000
theorem scan_ruleI {h o r : U} {step : h.T → Option (SRes h o r)} {n : Nat} {P : Nat → Bool} {lo : o.T} {lr : Nat → r.T} (g : Nat → h.T)
  (hs : ∀ i, i < n → step (g i) = if P i = true then some (.fin (.ret (lr i))) else some (.next (g (i + 1))))
  (he : step (g n) = some (.fin (.out lo))) {fuel : Nat} (hf : n < fuel) {x : h.T} (hx : x = g 0) :
  ((∀ i, i < n → P i = false) ∧ iterL step fuel x = some (.out lo)) ∨ ∃ i, i < n ∧ P i = true ∧ (∀ j, j < i → P j = false) ∧ iterL step fuel x = some (.ret (lr i)) := scan_rule n g P lo lr hs he hf hx
noncomputable def heldO (w : WrldT) : List Int := (lst w.2.1).filter (rchB w.2.1 (heldL w.2.2.1))
theorem filt_len {h : Heap} (f : FormP h) (p : Int → Bool) : ((lst h).filter p).length ≤ 512 := Nat.le_trans (List.length_filter_le _ _) (lst_len f)
end Go.Proofs.YtkjpakaidjpjgaaGreatDoor.Den
/- Pure laws: worlds that are few, whose numbers are good. -/
namespace Go.Proofs.YtkjpakaidjpjgaaGreatDoor.Den
open Go
set_option linter.unusedVariables false
set_option linter.unusedSimpArgs false
set_option maxRecDepth 100000
theorem good_val {v : Val} (g : Good cVal v) : -9223372036854775808 ≤ v.2.1 ∧ v.2.1 < 9223372036854775808 := by
 have h : (-9223372036854775808 : Int) ≤ v.2.1 ∧ v.2.1 ≤ 9223372036854775807 := g.2.1
 omega
theorem good_int {n : Int} (g : Good cI n) : -9223372036854775808 ≤ n ∧ n < 9223372036854775808 := by
 have h : (-9223372036854775808 : Int) ≤ n ∧ n ≤ 9223372036854775807 := g
 omega
theorem heldL_val {ms : List MutT} (g : Good (.sl cMut) ms) {v : Val} (hv : v ∈ heldL ms) : -9223372036854775808 ≤ v.2.1 ∧ v.2.1 < 9223372036854775808 := by
 unfold heldL at hv
 obtain ⟨m, hm, hv⟩ := List.mem_flatMap.1 hv
 have gm := g.2 m hm
 unfold held1 at hv
 rcases List.mem_append.1 hv with hv | hv
 ·exact good_val (gm.1.2 v hv)
 ·have ho : (-9223372036854775808 : Int) ≤ m.2.2.2.1 ∧ m.2.2.2.1 < 9223372036854775808 := good_int gm.2.2.2.1
  have hw : (-9223372036854775808 : Int) ≤ (m.2.2.2.2.1 : Val).2.1 ∧ (m.2.2.2.2.1 : Val).2.1 < 9223372036854775808 := good_val gm.2.2.2.2.1
  unfold regs at hv
  split at hv
  ·simp at hv; subst hv; exact ho
  ·split at hv
   ·simp at hv; subst hv; exact hw
   ·split at hv
    ·simp at hv
     rcases hv with rfl | rfl
     ·exact ho
     ·exact hw
    ·simp at hv
theorem itV_val {g : Grey} (h : Good cGrey g) {v : Val} (hv : v ∈ itV g) : -9223372036854775808 ≤ v.2.1 ∧ v.2.1 < 9223372036854775808 := by
 unfold itV at hv
 obtain ⟨a, ha, rfl⟩ := List.mem_map.1 hv
 exact good_int (h.2.1.2 a ha)
theorem todoL_val {m : MarkT} (g : Good cMarker m) {v : Val} (hv : v ∈ todoL m) : -9223372036854775808 ≤ v.2.1 ∧ v.2.1 < 9223372036854775808 := by
 unfold todoL at hv
 rcases List.mem_append.1 hv with hv | hv
 ·rcases List.mem_append.1 hv with hv | hv
  ·exact good_val (g.2.2.1.2 v hv)
  ·rcases List.mem_append.1 hv with hv | hv
   ·obtain ⟨x, hx, hv⟩ := List.mem_flatMap.1 hv
    exact itV_val (g.2.1.2 x hx) hv
   ·exact itV_val g.1 hv
 ·simp at hv
  subst hv
  exact good_int g.2.2.2.1
theorem few20_eq {w : WrldT} (gw : Good cWrld w) : ∃ b, r20_Few (w, ()) = some (b, ()) ∧ (b = true → GA w ∧ w.2.1.1.length ≤ 160 ∧ w.2.2.2.2.2.2.2.1.length ≤ 50) := by
 obtain ⟨b1, e1, h1⟩ := few18S_eq w.2.2.1
 obtain ⟨b2, e2, h2⟩ := few_eq w.2.2.2.1
 have gh : Good cHeap w.2.1 := gw.2.1
 have gm : Good (.sl cMut) w.2.2.1 := gw.2.2.1
 have gk : Good cMarker w.2.2.2.1 := gw.2.2.2.1
 simp only [r20_Few, r20_Few_r, e1, e2, Option.bind_some, Bool.cond_decide]
 by_cases c1 : (w.2.1.1.length : Int) ≤ 160
 ·rw [if_pos c1]
  by_cases c2 : (w.2.1.2.1.length : Int) ≤ 10
  ·rw [if_pos c2]
   cases b1 with
   | false => exact ⟨false, rfl, fun h => by cases h⟩
   | true =>
    cases b2 with
    | false => exact ⟨false, rfl, fun h => by cases h⟩
    | true =>
     refine ⟨_, rfl, fun h => ?_⟩
     have h3 := of_decide_eq_true h
     obtain ⟨a1, a2⟩ := h1 rfl
     obtain ⟨d1, d2, d3, d4⟩ := h2 rfl
     have ho := good_int gk.2.2.2.1
     refine ⟨⟨⟨gh, by omega, ⟨a1, a2, fun m hm => good_int (gm.2 m hm).2.2.2.1⟩, ⟨by omega, by omega, fun g hg => by have := d4 g hg; omega, ho⟩⟩, fun v hv => heldL_val gm hv, fun v hv => todoL_val gk hv, by omega, d1, d2, d4⟩, by omega, by omega⟩
  ·rw [if_neg c2]
   exact ⟨false, rfl, fun h => by cases h⟩
 ·rw [if_neg c1]
  exact ⟨false, rfl, fun h => by cases h⟩
end Go.Proofs.YtkjpakaidjpjgaaGreatDoor.Den
/- Pure laws: pages swept. -/
namespace Go.Proofs.YtkjpakaidjpjgaaGreatDoor.Den
open Go
set_option linter.unusedVariables false
set_option linter.unusedSimpArgs false
set_option maxRecDepth 100000
def dirtS (s : Span) : Span := if s.1 = 1 then (2, s.2) else s
def begS (h : Heap) : Heap := (h.1, h.2.1.map dirtS, h.2.2)
theorem mapset {α : Type} (l : List α) (f : α → α) (i : Nat) (hi : i < l.length) : ((l.take i).map f ++ l.drop i).set i (f l[i]) = (l.take (i + 1)).map f ++ l.drop (i + 1) := by
 have h1 : ((l.take i).map f).length = i := by rw [List.length_map, List.length_take]; omega
 rw [List.set_append_right _ _ (by omega), h1, Nat.sub_self, List.drop_eq_getElem_cons hi, List.set_cons_zero, ← List.take_append_getElem hi, List.map_append, List.append_assoc]
 rfl
theorem mapget {α : Type} (l : List α) (f : α → α) (i : Nat) (hi : i < l.length) (z : α) : ((l.take i).map f ++ l.drop i).getD i z = l[i] := by
 have h1 : ((l.take i).map f).length = i := by rw [List.length_map, List.length_take]; omega
 rw [List.getD_eq_getElem?_getD, List.getElem?_append_right (by omega), h1, Nat.sub_self, List.drop_eq_getElem_cons hi]
 rfl
theorem maplen {α : Type} (l : List α) (f : α → α) (i : Nat) : ((l.take i).map f ++ l.drop i).length = l.length := by
 rw [List.length_append, List.length_map, List.length_take, List.length_drop]; omega
theorem sweepBegin_eq {h : Heap} (f : FormP h) : sweep_Begin (h, ()) = some (begS h, ()) := by
 have hn := f.n16
 have hl := f.len
 have key : sweep_Begin_l0 ((h.2.1.length : Int), 0, h.2.2, (false, ()), h.1, h.2.1, ()) = some (.out (h.2.2, (false, ()), h.1, h.2.1.map dirtS, ())) := by
  unfold sweep_Begin_l0
  refine iterL_run h.2.1.length (fun i => ((h.2.1.length : Int), (i : Int), h.2.2, (false, ()), h.1, (h.2.1.take i).map dirtS ++ h.2.1.drop i, ())) (fun i hi => ?_) ?_ (by omega) rfl
  ·have hm := maplen h.2.1 dirtS i
   simp only [sweep_Begin_s0, sweep_Begin_s0r, Bool.cond_decide, Int.toNat_natCast, ibeq, hm]
   have p1 : (i : Int) < (h.2.1.length : Int) := by omega
   have p2 : (0 : Int) ≤ (i : Int) := by omega
   simp only [show ((0 : Int), (0 : Int), (0 : Int), ()) = sz from rfl, mapget h.2.1 dirtS i hi sz, if_pos p1, if_pos p2]
   rw [wi64_id (n := (i : Int) + 1) (by omega) (by omega), ← mapset h.2.1 dirtS i hi]
   by_cases e : (h.2.1[i] : Span).1 = 1
   ·rw [if_pos e]
    have : dirtS h.2.1[i] = (2, (h.2.1[i] : Span).2) := by unfold dirtS; rw [if_pos e]
    rw [this]
    rfl
   ·rw [if_neg e]
    have : dirtS h.2.1[i] = h.2.1[i] := by unfold dirtS; rw [if_neg e]
    rw [this]
    have hs : ((h.2.1.take i).map dirtS ++ h.2.1.drop i).set i h.2.1[i] = (h.2.1.take i).map dirtS ++ h.2.1.drop i := by
     have hg := mapget h.2.1 dirtS i hi sz
     rw [get_d _ _ _ (by omega)] at hg
     rw [← hg]
     exact List.set_getElem_self (by omega)
    rw [hs]
    rfl
  ·simp only [sweep_Begin_s0, sweep_Begin_s0r, Bool.cond_decide]
   rw [if_neg (show ¬ ((h.2.1.length : Int) < (h.2.1.length : Int)) by omega), List.take_of_length_le (Nat.le_refl _), List.drop_of_length_le (Nat.le_refl _), List.append_nil]
 simp only [sweep_Begin, sweep_Begin_r, clone8_eq (show h.1.length ≤ 512 by omega), clone24_eq (show h.2.1.length ≤ 512 by omega), Option.bind_some, key]
 rfl
instance (s : Span) (i : Int) : Decidable (giveP s i) := by unfold giveP; infer_instance
instance (h : Heap) (a : Int) : Decidable (freeP h a) := by unfold freeP; infer_instance
def sw1 (w : Nat) (g : Heap × Int) (a : Int) : Heap × Int := if (okA g.1 a && !bk g.1 a) = true ∧ freeP g.1 a then (freed g.1 a, g.2 + (w : Int)) else g
def swF (h : Heap) (p : Nat) : Nat → Heap × Int
 | 0 => (h, 0)
 | n + 1 => sw1 (pgW h p) (swF h p n) (blA h p n)
structure SwI (h g : Heap) : Prop where
 hp : HP g
 wl : g.1.length = h.1.length
 sl : g.2.1.length = h.2.1.length
 cl : ∀ q, (g.2.1.getD q sz).1 = (h.2.1.getD q sz).1 ∧ (g.2.1.getD q sz).2.1 = (h.2.1.getD q sz).2.1
 c : g.2.2 = h.2.2
theorem getD_set_i {α : Type} (l : List α) (i j : Nat) (x z : α) : (l.set i x).getD j z = if i = j ∧ j < l.length then x else l.getD j z := by
 rw [List.getD_eq_getElem?_getD, List.getD_eq_getElem?_getD, List.getElem?_set]
 by_cases e : i = j
 ·subst e
  by_cases hl : i < l.length
  ·simp [hl]
  ·simp [hl]
 ·simp [e]
theorem SwI.freed {h g : Heap} (q : SwI h g) {a : Int} (i : freeP g a) : SwI h (freed g a) := by
 have hb := i.1
 have hr := fnd_room q.hp.f hb
 have h1 := fndB_rng hb
 have hc := cw_le (spanOf g a).2.1
 refine ⟨freed_hp q.hp i, ?_, ?_, fun r => ?_, q.c⟩
 ·show (zer g.1 a.toNat (cw (spanOf g a).2.1).toNat).length = _
  rw [zer_len (by omega), q.wl]
 ·show (g.2.1.set _ _).length = _
  rw [List.length_set, q.sl]
 ·show ((g.2.1.set _ _).getD r sz).1 = _ ∧ ((g.2.1.set _ _).getD r sz).2.1 = _
  rw [getD_set_i]
  split
  ·rename_i e
   have hs : spanOf g a = g.2.1.getD r sz := by unfold spanOf; rw [e.1]
   show (spanOf g a).1 = _ ∧ (spanOf g a).2.1 = _
   rw [hs]
   exact q.cl r
  ·exact q.cl r
theorem swF_ok {h : Heap} (q : HP h) (p : Nat) : ∀ n, SwI h (swF h p n).1 ∧ 0 ≤ (swF h p n).2 ∧ (swF h p n).2 ≤ (n : Int) * (pgW h p : Int)
 | 0 => ⟨⟨q, rfl, rfl, fun _ => ⟨rfl, rfl⟩, rfl⟩, by show (0 : Int) ≤ 0; omega, by show (0 : Int) ≤ _; simp⟩
 | n + 1 => by
  obtain ⟨h1, h2, h3⟩ := swF_ok q p n
  have e : ((n + 1 : Nat) : Int) * (pgW h p : Int) = (n : Int) * (pgW h p : Int) + (pgW h p : Int) := by rw [Int.natCast_succ, Int.add_mul, Int.one_mul]
  show SwI h (sw1 _ _ _).1 ∧ 0 ≤ (sw1 _ _ _).2 ∧ (sw1 _ _ _).2 ≤ _
  rw [e]
  unfold sw1
  split
  ·rename_i c
   exact ⟨h1.freed c.2, by show (0 : Int) ≤ _ + _; omega, by show _ + _ ≤ _; omega⟩
  ·exact ⟨h1, h2, by omega⟩
theorem sweep_l1 {h : Heap} (q : HP h) (c : List (List Int)) {p : Nat} (hp : p < h.2.1.length) (x : Bool × Unit) (ws : (h.2.1.getD p sz).1 ≠ 0) :
  sweep_One_l1 (c, (p : Int), (h.2.1.getD p sz).2.1, 0, cb (h.2.1.getD p sz).2.1, 0, x, h.2.2, h.1, h.2.1, ()) =
   some (.out (c, (p : Int), (swF h p (pgN h p)).2, x, h.2.2, (swF h p (pgN h p)).1.1, (swF h p (pgN h p)).1.2.1, ())) := by
 have f := q.f
 have hn := f.n16
 have hl := f.len
 obtain ⟨w, b, hw, hb, ec, b16, hB⟩ := blk_of f hp
 have ew : cw (h.2.1.getD p sz).2.1 = (w : Int) := by
  obtain ⟨w', b', e1, e2, e3, _⟩ := pg_class f hp
  unfold pgW at hw; rw [e1] at hw ⊢; omega
 rw [hb, ec]
 unfold sweep_One_l1
 refine iterL_run b (fun i => (c, (p : Int), (h.2.1.getD p sz).2.1, (swF h p i).2, (b : Int), (i : Int), x, h.2.2, (swF h p i).1.1, (swF h p i).1.2.1, ())) (fun i hi => ?_) ?_ (by omega) rfl
 ·have B := hB i hi
  have hin := B.in_
  have hB2 := B.two
  have hwb := B.wb
  obtain ⟨g1, g2, g3⟩ := swF_ok q p i
  have hin2 : (i : Int) * (w : Int) + (w : Int) ≤ 32 := by
   have : ((i * w + w : Nat) : Int) ≤ 32 := by omega
   rwa [Int.natCast_add, Int.natCast_mul] at this
  rw [hw] at g3
  have ea : ((32 * p + i * w : Nat) : Int) = (blA h p i : Int) := by rw [B.a_]
  have eb : blA h p i + w ≤ h.1.length := by rw [B.a_]; omega
  obtain ⟨g, hg⟩ : ∃ g, (swF h p i).1 = g := ⟨_, rfl⟩
  have hnext : swF h p (i + 1) = sw1 w (swF h p i) (blA h p i) := by show sw1 (pgW h p) _ _ = _; rw [hw]
  rw [hg] at g1
  have hc : ((g.1, g.2.1, h.2.2) : Heap) = g := by rw [← g1.c]
  have fg := g1.hp.f
  simp only [sweep_One_s1, sweep_One_s1r, Bool.cond_decide, class_Words_eq, ew, Option.bind_some, hg, hc]
  rw [if_pos (show (i : Int) < (b : Int) by omega), at_prog (by omega) (by omega), ea, wi64_id (n := (i : Int) + 1) (by omega) (by omega), objGet_eq fg (by omega) (by omega), black_eq fg (by omega) (by omega), find_eq fg (by omega) (by omega)]
  simp only [Option.bind_some]
  have hok : okA g (blA h p i) = (og g (blA h p i)).2.1 := rfl
  rw [hnext]
  unfold sw1
  rw [hg]
  cases e1 : (og g (blA h p i)).2.1 with
  | false =>
   rw [if_neg (by rw [hok, e1]; simp)]
   simp only [Bool.not_false, cond_true, hg]
   rfl
  | true =>
   simp only [Bool.not_true, cond_false]
   cases e2 : bk g (blA h p i) with
   | true =>
    rw [if_neg (by simp)]
    simp only [cond_true, hg]
    rfl
   | false =>
    simp only [cond_false]
    have hf : fndB g (blA h p i) = true := (og_ok e1).1
    obtain ⟨ip, es⟩ := fnd_page hf
    have hR := fg.right _ ip.mem
    have h0 := g1.hp.fr _ ip.mem
    rw [es] at hR h0
    rw [fnd_in hf]
    simp only [Bool.not_true, cond_false, page_in ip, Option.bind_some, es]
    by_cases gv : giveP (spanOf g (blA h p i)) (blkI g (blA h p i))
    ·have fr : freeP g (blA h p i) := ⟨hf, gv⟩
     rw [if_pos ⟨by rw [hok, e1]; rfl, fr⟩, (give_in h0 (rightB_free hR h0) gv).1]
     have i0 := ip.1
     have i1 := ip.2
     have hcl : (spanOf g (blA h p i)).2.1 = (h.2.1.getD p sz).2.1 := by
      have : spanOf g (blA h p i) = g.2.1.getD p sz := by
       unfold spanOf
       rw [B.a_, show (((32 * p + i * w : Nat) : Int) / 32).toNat = p by omega]
      rw [this]
      exact (g1.cl p).2
     have hsp : g.2.1.getD ((blA h p i : Int) / 32).toNat (0, 0, 0, ()) = spanOf g (blA h p i) := rfl
     simp only [Option.bind_some, Bool.not_true, cond_false, clone8_eq (show g.1.length ≤ 512 by rw [g1.wl]; omega), clone24_eq (show g.2.1.length ≤ 512 by rw [g1.sl]; omega), if_pos i0, if_pos i1, hsp, hcl, ew]
     have q1 : (0 : Int) ≤ (blA h p i : Int) := by omega
     have q2 : wi64 ((blA h p i : Int) + (w : Int)) = (blA h p i : Int) + (w : Int) := wi64_id (by omega) (by omega)
     have q3 : (blA h p i : Int) ≤ (blA h p i : Int) + (w : Int) := by omega
     have q4 : (blA h p i : Int) + (w : Int) ≤ (g.1.length : Int) := by rw [g1.wl]; omega
     have q5 : wi64 ((swF h p i).2 + (w : Int)) = (swF h p i).2 + (w : Int) := wi64_id (by omega) (by omega)
     simp only [q2, if_pos q1, if_pos q3, if_pos q4, q5]
     have e5 : freed g (blA h p i) = (segSet g.1 (blA h p i : Int).toNat (List.replicate (((blA h p i : Int) + (w : Int)).toNat - (blA h p i : Int).toNat) 0), g.2.1.set ((blA h p i : Int) / 32).toNat ((spanOf g (blA h p i)).1, (spanOf g (blA h p i)).2.1, xr (spanOf g (blA h p i)).2.2.1 (blkI g (blA h p i)).toNat, ()), g.2.2) := by
      unfold freed zer
      rw [hcl, ew, show ((blA h p i : Int) + (w : Int)).toNat - (blA h p i : Int).toNat = (w : Int).toNat by omega]
     rw [e5]
     rw [hcl]
     rfl
    ·rw [if_neg (fun hh => gv hh.2.2), (give_out h0 (rightB_free hR h0) gv).1]
     simp only [Option.bind_some, Bool.not_false, cond_true, hg]
     rfl
 ·simp only [sweep_One_s1, sweep_One_s1r, Bool.cond_decide]
  rw [if_neg (show ¬ ((b : Int) < (b : Int)) by omega)]
end Go.Proofs.YtkjpakaidjpjgaaGreatDoor.Den
/- Pure laws: the sweeper's turn, the marker's turn. -/
namespace Go.Proofs.YtkjpakaidjpjgaaGreatDoor.Den
open Go
set_option linter.unusedVariables false
set_option linter.unusedSimpArgs false
set_option maxRecDepth 100000
theorem spanEmpty_eq (s : Span) : span_Empty (s, ()) = some (decide ((s.1 = 1 ∨ s.1 = 2) ∧ s.2.2.1 = 2 ^ (cb s.2.1).toNat - 1), ()) := by
 simp only [span_Empty, span_Empty_r, span_inUse_eq, whole_eq, Option.bind_some, Bool.cond_decide, ibeq]
 by_cases e : s.1 = 1 ∨ s.1 = 2
 ·rw [if_pos e]
  exact congrArg (fun b => some (b, ())) (decide_eq_decide.2 ⟨fun h => ⟨e, h⟩, fun h => h.2⟩)
 ·rw [if_neg e, decide_eq_false (fun h => e h.1)]
theorem spanEmpty_one (x : Int × Int × Unit) : span_Empty ((1, x), ()) = some (decide (x.2.1 = 2 ^ (cb x.1).toNat - 1), ()) := by
 rw [spanEmpty_eq]
 exact congrArg (fun b => some (b, ())) (decide_eq_decide.2 ⟨fun h => h.2, fun h => ⟨.inl rfl, h⟩⟩)
def oneG (h : Heap) (c : List (List Int)) (p : Nat) : Heap :=
 if ((swF h p (pgN h p)).1.2.1.getD p sz).2.2.1 = 2 ^ (cb (h.2.1.getD p sz).2.1).toNat - 1 ∧ ¬ keptP c p then ((swF h p (pgN h p)).1.1, (swF h p (pgN h p)).1.2.1.set p sz, h.2.2)
 else ((swF h p (pgN h p)).1.1, (swF h p (pgN h p)).1.2.1.set p (1, ((swF h p (pgN h p)).1.2.1.getD p sz).2), h.2.2)
theorem set_getD {α : Type} (l : List α) (i : Nat) (hi : i < l.length) (x z : α) : (l.set i x).getD i z = x := by
 rw [get_d _ _ _ (by rw [List.length_set]; exact hi), List.getElem_set_self]
theorem sweepOne_none {h : Heap} (hl : h.2.1.length ≤ 16) (c : List (List Int)) (hz : ∀ i, i < h.2.1.length → (h.2.1.getD i sz).1 ≠ 2) : sweep_One (h, c, ()) = some (h, 0, 0, false, ()) := by
 have key : ((∀ i, i < h.2.1.length → decide ((h.2.1.getD i sz).1 = 2) = false) ∧ sweep_One_l0 (h.2.1, (h.2.1.length : Int), 0, h, (false, ()), ()) = some (.out (h, (false, ()), ()))) ∨ ∃ i, i < h.2.1.length ∧ decide ((h.2.1.getD i sz).1 = 2) = true ∧ (∀ j, j < i → decide ((h.2.1.getD j sz).1 = 2) = false) ∧ sweep_One_l0 (h.2.1, (h.2.1.length : Int), 0, h, (false, ()), ()) = some (.ret ((i : Int), h, (false, ()), ())) := by
  unfold sweep_One_l0
  refine scan_ruleI (P := fun i => decide ((h.2.1.getD i sz).1 = 2)) (fun i => (h.2.1, (h.2.1.length : Int), (i : Int), h, (false, ()), ())) (fun i hi => ?_) ?_ (by omega) rfl
  ·simp only [sweep_One_s0, sweep_One_s0r, sweep_dirty, sweep_dirty_r, Bool.cond_decide, Int.toNat_natCast, Option.bind_some, ibeq]
   simp only [show ((0 : Int), (0 : Int), (0 : Int), ()) = sz from rfl]
   rw [if_pos (show (i : Int) < (h.2.1.length : Int) by omega), if_pos (show (0 : Int) ≤ (i : Int) by omega), if_pos (show (i : Int) < (h.2.1.length : Int) by omega), wi64_id (n := (i : Int) + 1) (by omega) (by omega)]
   by_cases e : (h.2.1.getD i sz).1 = 2
   ·rw [if_pos e, if_pos (decide_eq_true e)]
   ·rw [if_neg e, if_neg (by simpa using e)]; rfl
  ·simp only [sweep_One_s0, sweep_One_s0r, Bool.cond_decide]
   rw [if_neg (show ¬ ((h.2.1.length : Int) < (h.2.1.length : Int)) by omega)]
 rcases key with ⟨_, e⟩ | ⟨i, hi, h1, _, _⟩
 ·simp only [sweep_One, sweep_One_r, e, Option.bind_some]
 ·exact absurd (of_decide_eq_true h1) (hz i hi)
theorem sweepOne_some {h : Heap} (q : HP h) {c : List (List Int)} (h4 : Row4 c) (hcl : c.length ≤ 1000) {p : Nat} (hp : p < h.2.1.length) (hd : (h.2.1.getD p sz).1 = 2) (hz : ∀ i, i < p → (h.2.1.getD i sz).1 ≠ 2) :
  sweep_One (h, c, ()) = some (oneG h c p, (p : Int), (swF h p (pgN h p)).2, true, ()) := by
 have hn := q.f.n16
 have hl := q.f.len
 have key : ((∀ i, i < h.2.1.length → decide ((h.2.1.getD i sz).1 = 2) = false) ∧ sweep_One_l0 (h.2.1, (h.2.1.length : Int), 0, h, (false, ()), ()) = some (.out (h, (false, ()), ()))) ∨ ∃ i, i < h.2.1.length ∧ decide ((h.2.1.getD i sz).1 = 2) = true ∧ (∀ j, j < i → decide ((h.2.1.getD j sz).1 = 2) = false) ∧ sweep_One_l0 (h.2.1, (h.2.1.length : Int), 0, h, (false, ()), ()) = some (.ret ((i : Int), h, (false, ()), ())) := by
  unfold sweep_One_l0
  refine scan_ruleI (P := fun i => decide ((h.2.1.getD i sz).1 = 2)) (fun i => (h.2.1, (h.2.1.length : Int), (i : Int), h, (false, ()), ())) (fun i hi => ?_) ?_ (by omega) rfl
  ·simp only [sweep_One_s0, sweep_One_s0r, sweep_dirty, sweep_dirty_r, Bool.cond_decide, Int.toNat_natCast, Option.bind_some, ibeq]
   simp only [show ((0 : Int), (0 : Int), (0 : Int), ()) = sz from rfl]
   rw [if_pos (show (i : Int) < (h.2.1.length : Int) by omega), if_pos (show (0 : Int) ≤ (i : Int) by omega), if_pos (show (i : Int) < (h.2.1.length : Int) by omega), wi64_id (n := (i : Int) + 1) (by omega) (by omega)]
   by_cases e : (h.2.1.getD i sz).1 = 2
   ·rw [if_pos e, if_pos (decide_eq_true e)]
   ·rw [if_neg e, if_neg (by simpa using e)]; rfl
  ·simp only [sweep_One_s0, sweep_One_s0r, Bool.cond_decide]
   rw [if_neg (show ¬ ((h.2.1.length : Int) < (h.2.1.length : Int)) by omega)]
 rcases key with ⟨h1, _⟩ | ⟨i, hi, h1, h2, e⟩
 ·have := h1 p hp
  rw [decide_eq_true hd] at this
  cases this
 obtain rfl : i = p := by
  rcases Nat.lt_trichotomy i p with hlt | e | hgt
  ·exact absurd (of_decide_eq_true h1) (hz i hlt)
  ·exact e
  ·have := h2 p hgt
   rw [decide_eq_true hd] at this
   cases this
 obtain ⟨I, -, -⟩ := swF_ok q i (pgN h i)
 have hsl := I.sl
 have hwl := I.wl
 have hcl2 := (I.cl i).2
 have k1 := sweep_l1 q c hp (false, ()) (by rw [hd]; decide)
 unfold oneG
 obtain ⟨g, hg⟩ : ∃ g, (swF h i (pgN h i)).1 = g := ⟨_, rfl⟩
 rw [hg] at I hsl hwl hcl2 k1 ⊢
 have n1 : ¬ ((i : Int) < 0) := by omega
 have p1 : (0 : Int) ≤ (i : Int) := by omega
 have p2 : (i : Int) < (h.2.1.length : Int) := by omega
 have p3 : (i : Int) < (g.2.1.length : Int) := by omega
 have p4 : (i : Int) < ((g.2.1.set i (1, (g.2.1.getD i sz).2)).length : Int) := by rw [List.length_set]; omega
 simp only [sweep_One, sweep_One_r, e, Option.bind_some, Bool.cond_decide, if_neg n1, if_pos p1, if_pos p2, sweepBegin_eq q.f, clone24_eq (show h.2.1.length ≤ 512 by omega), class_Blocks_eq, Int.toNat_natCast]
 simp only [show ((0 : Int), (0 : Int), (0 : Int), ()) = sz from rfl, begS, k1, Option.bind_some, Int.toNat_natCast, if_pos p1, if_pos p3, if_pos p4, spanEmpty_one, set_getD _ _ (show i < g.2.1.length by omega), hcl2]
 have hkep := takeKept_eq h4 hcl (i : Int)
 by_cases ce : (g.2.1.getD i sz).2.2.1 = 2 ^ (cb (h.2.1.getD i sz).2.1).toNat - 1
 ·rw [decide_eq_true ce]
  simp only [cond_true, hkep, Option.bind_some]
  by_cases ck : keptP c i
  ·rw [decide_eq_true (p := (0 : Int) ≤ (i : Int) ∧ keptP c i) ⟨p1, ck⟩, if_neg (fun hh => hh.2 ck)]
   rfl
  ·rw [decide_eq_false (p := (0 : Int) ≤ (i : Int) ∧ keptP c i) (fun hh => ck hh.2), if_pos ⟨ce, ck⟩]
   have hin : inP ((g.1, g.2.1.set i (1, (g.2.1.getD i sz).2), h.2.2) : Heap) (i : Int) := ⟨p1, p4⟩
   have hsp : spanAt ((g.1, g.2.1.set i (1, (g.2.1.getD i sz).2), h.2.2) : Heap) (i : Int) = (1, (g.2.1.getD i sz).2) := by
    show (g.2.1.set i _).getD (i : Int).toNat sz = _
    rw [Int.toNat_natCast, set_getD _ _ (show i < g.2.1.length by omega)]
   have hs : (g.2.1.set i (1, (g.2.1.getD i sz).2)).length ≤ 512 := by rw [List.length_set]; omega
   have p5 : (i : Int) < (((g.2.1.set i (1, (g.2.1.getD i sz).2))).length : Int) := p4
   simp only [Bool.not_false, cond_true, page_in hin, hsp, Option.bind_some, heap_Close_1, heap_Close_1_r, spanEmpty_one, hcl2]
   rw [decide_eq_true ce]
   simp only [Bool.not_true, cond_false, clone8_eq (show g.1.length ≤ 512 by omega), clone24_eq hs, Option.bind_some, if_pos p1, if_pos p5, List.set_set]
   rfl
 ·rw [decide_eq_false ce, if_neg (fun hh => ce hh.1)]
  rfl
def fstD (h : Heap) : Option Nat := h.2.1.findIdx? fun s => decide (s.1 = 2)
def swpH (h : Heap) (c : List (List Int)) : Heap := match fstD h with
 | none => h
 | some p => oneG h c p
theorem fstD_none {h : Heap} (e : fstD h = none) : ∀ i, i < h.2.1.length → (h.2.1.getD i sz).1 ≠ 2 := by
 intro i hi
 have := List.findIdx?_eq_none_iff.1 e _ (List.getElem_mem hi)
 rw [get_d _ _ _ hi]
 simpa using this
theorem fstD_some {h : Heap} {p : Nat} (e : fstD h = some p) : p < h.2.1.length ∧ (h.2.1.getD p sz).1 = 2 ∧ ∀ i, i < p → (h.2.1.getD i sz).1 ≠ 2 := by
 unfold fstD at e
 obtain ⟨hp, h1, h2⟩ := List.findIdx?_eq_some_iff_getElem.1 e
 refine ⟨hp, by rw [get_d _ _ _ hp]; exact of_decide_eq_true h1, fun i hi => ?_⟩
 have := h2 i hi
 rw [get_d _ _ _ (by omega)]
 simpa using this
def swpW (w : WrldT) : WrldT × Int × Unit :=
 if w.2.2.2.2.1 = 2 then
  if dcnt (swpH w.2.1 (cachesW w.2.2.1)) = 0 then ((w.1, swpH w.2.1 (cachesW w.2.2.1), w.2.2.1, w.2.2.2.1, 0, w.2.2.2.2.2), 5, ())
  else ((w.1, swpH w.2.1 (cachesW w.2.2.1), w.2.2), 1, ())
 else (w, 0, ())
theorem dcnt_zero {h : Heap} (hz : ∀ i, i < h.2.1.length → (h.2.1.getD i sz).1 ≠ 2) : dcnt h = 0 := by
 unfold dcnt
 rw [List.countP_eq_zero]
 intro s hs
 obtain ⟨i, hi, rfl⟩ := List.mem_iff_getElem.1 hs
 have := hz i hi
 rw [get_d _ _ _ hi] at this
 simpa using this
theorem oneG_len {h : Heap} (q : HP h) (c : List (List Int)) (p : Nat) : (oneG h c p).2.1.length = h.2.1.length ∧ (oneG h c p).1.length = h.1.length := by
 obtain ⟨I, -, -⟩ := swF_ok q p (pgN h p)
 have h1 := I.sl
 have h2 := I.wl
 unfold oneG
 split
 ·exact ⟨by show (List.set _ _ _).length = _; rw [List.length_set, h1], h2⟩
 ·exact ⟨by show (List.set _ _ _).length = _; rw [List.length_set, h1], h2⟩
theorem swpH_len {h : Heap} (q : HP h) (c : List (List Int)) : (swpH h c).2.1.length = h.2.1.length ∧ (swpH h c).1.length = h.1.length := by
 unfold swpH
 split
 ·exact ⟨rfl, rfl⟩
 ·exact oneG_len q c _
theorem sweeper_eq {w : WrldT} (q : HP w.2.1) (hm : w.2.2.1.length ≤ 1000) (h4 : Row4 (cachesW w.2.2.1)) : cycle_Sweeper (w, ()) = some (swpW w) := by
 have hn := q.f.n16
 simp only [cycle_Sweeper, cycle_Sweeper_r, caches_eq (w := w) hm, Option.bind_some, ibne, Bool.cond_decide]
 unfold swpW
 by_cases e : w.2.2.2.2.1 = 2
 ·rw [if_neg (fun hh => hh e), if_pos e]
  have hsl := swpH_len q (cachesW w.2.2.1)
  have hdq := dirty_eq (h := swpH w.2.1 (cachesW w.2.2.1)) (by omega)
  unfold swpH at hsl hdq ⊢
  cases e1 : fstD w.2.1 with
  | none =>
   rw [e1] at hdq
   rw [sweepOne_none (by omega) _ (fstD_none e1)]
   simp only [Option.bind_some, cond_false, hdq]
   have hz := dcnt_zero (fstD_none e1)
   rw [if_neg (show ¬ ((dcnt w.2.1 : Int) > 0) by omega), if_pos hz]
  | some p =>
   obtain ⟨hp, hd, hz⟩ := fstD_some e1
   rw [e1] at hdq
   rw [sweepOne_some q h4 (by rw [cachesW_len]; omega) hp hd hz]
   simp only [Option.bind_some, cond_true, hdq]
   by_cases c0 : dcnt (oneG w.2.1 (cachesW w.2.2.1) p) = 0
   ·rw [if_neg (show ¬ ((dcnt (oneG w.2.1 (cachesW w.2.2.1) p) : Int) > 0) by omega), if_pos c0]
   ·rw [if_pos (show ((dcnt (oneG w.2.1 (cachesW w.2.2.1) p) : Int) > 0) by omega), if_neg c0]
 ·rw [if_pos e, if_neg e]
end Go.Proofs.YtkjpakaidjpjgaaGreatDoor.Den
/- Pure laws: what a report tells; the marker's turn. -/
namespace Go.Proofs.YtkjpakaidjpjgaaGreatDoor.Den
open Go
set_option linter.unusedVariables false
set_option linter.unusedSimpArgs false
set_option maxRecDepth 100000
theorem del_rule {h o r : U} {step : h.T → Option (SRes h o r)} {L : List Int} {keep : Int → Bool} {lo : Nat → List Int → o.T} (g : Nat → Nat → List Int → h.T)
  (hs : ∀ (j k : Nat) (q : List Int) (hj : j < L.length), k < j → q.length = L.length → q.getD j 0 = L[j] → step (g j k q) = if keep L[j] = true then some (.next (g (j + 1) (k + 1) (q.set k L[j]))) else some (.next (g (j + 1) k q)))
  (he : ∀ (k : Nat) (q : List Int), k ≤ L.length → q.length = L.length → step (g L.length k q) = some (.fin (.out (lo k q))))
  {i : Nat} (hi : i < L.length) (hp : keep L[i] = false) (hz : ∀ j (hj : j < L.length), j < i → keep L[j] = true) {fuel : Nat} (hf : L.length < fuel) {x : h.T} (hx : x = g (i + 1) i L) :
  ∃ (k : Nat) (q : List Int), iterL step fuel x = some (.out (lo k q)) ∧ k ≤ q.length ∧ q.length = L.length ∧ q.take k = L.filter keep := by
 have key : ∃ l, iterL step fuel x = some l ∧ ∃ (k : Nat) (q : List Int), l = .out (lo k q) ∧ k ≤ q.length ∧ q.length = L.length ∧ q.take k = L.filter keep := by
  subst hx
  refine iterL_rule (fun m y => ∃ (j k : Nat) (q : List Int), k < j ∧ j ≤ L.length ∧ m = L.length - j ∧ y = g j k q ∧ q.length = L.length ∧ q.take k = (L.take j).filter keep ∧ q.drop j = L.drop j) ?_ fuel (L.length - (i + 1)) _ (by omega) ⟨i + 1, i, L, by omega, by omega, rfl, rfl, rfl, ?_, rfl⟩
  ·rintro m y ⟨j, k, q, hkj, hj, rfl, rfl, hql, hqt, hqd⟩
   by_cases hlt : j < L.length
   ·have hqj : q[j]'(by omega) = L[j] := by
     have h1 : (q.drop j)[0]? = (L.drop j)[0]? := by rw [hqd]
     rw [List.getElem?_drop, List.getElem?_drop] at h1
     simp only [Nat.add_zero] at h1
     rw [List.getElem?_eq_getElem (by omega), List.getElem?_eq_getElem hlt] at h1
     injection h1
    have hgj : q.getD j 0 = L[j] := by rw [get_d _ _ _ (show j < q.length by omega)]; exact hqj
    have htk : L.take (j + 1) = L.take j ++ [L[j]] := (List.take_append_getElem hlt).symm
    have hqd2 : q.drop (j + 1) = L.drop (j + 1) := by
     have : (q.drop j).drop 1 = (L.drop j).drop 1 := by rw [hqd]
     rwa [List.drop_drop, List.drop_drop] at this
    rw [hs j k q hlt hkj hql hgj]
    cases hk : keep L[j] with
    | true =>
     rw [if_pos rfl]
     refine .inl ⟨L.length - (j + 1), _, by omega, rfl, j + 1, k + 1, q.set k L[j], by omega, by omega, rfl, rfl, by rw [List.length_set]; exact hql, ?_, ?_⟩
     ·rw [htk, List.filter_append, ← hqt, List.filter_cons, hk, if_pos rfl, List.filter_nil]
      rw [← List.take_append_getElem (show k < (q.set k L[j]).length by rw [List.length_set]; omega), List.getElem_set_self, List.take_set_of_le (Nat.le_refl _)]
     ·rw [List.drop_set_of_lt (by omega)]
      exact hqd2
    | false =>
     rw [if_neg (by simp)]
     refine .inl ⟨L.length - (j + 1), _, by omega, rfl, j + 1, k, q, by omega, by omega, rfl, rfl, hql, ?_, hqd2⟩
     rw [htk, List.filter_append, ← hqt, List.filter_cons, hk, if_neg (by simp), List.filter_nil, List.append_nil]
   ·obtain rfl : j = L.length := by omega
    rw [he k q (by omega) hql]
    refine .inr ⟨_, rfl, k, q, rfl, by omega, hql, ?_⟩
    rw [hqt, List.take_of_length_le (Nat.le_refl _)]
  ·have h1 : L.take (i + 1) = L.take i ++ [L[i]] := (List.take_append_getElem hi).symm
   rw [h1, List.filter_append, List.filter_cons, hp, if_neg (by simp), List.filter_nil, List.append_nil, List.filter_eq_self.2]
   intro a ha
   obtain ⟨j, hj, rfl⟩ := List.mem_iff_getElem.1 ha
   rw [List.length_take] at hj
   rw [List.getElem_take]
   exact hz j (by omega) (by omega)
 obtain ⟨l, e, k, q, rfl, h1, h2, h3⟩ := key
 exact ⟨k, q, e, h1, h2, h3⟩
theorem cut_len {r : List Int} {k : Nat} (h1 : k ≤ r.length) : (segSet r k (List.replicate (r.length - k) (0 : Int))).length = r.length := by
 unfold segSet
 simp only [List.length_append, List.length_take, List.length_replicate, List.length_drop]
 omega
theorem cut_take {r : List Int} {k : Nat} (h1 : k ≤ r.length) : ((segSet r k (List.replicate (r.length - k) (0 : Int))).drop 0).take (k - 0) = r.take k := by
 unfold segSet
 rw [List.drop_zero, Nat.sub_zero, List.append_assoc, List.take_append_of_le_length (by rw [List.length_take]; omega), List.take_of_length_le (by rw [List.length_take]; omega)]
theorem reachBlack_eq {h : Heap} (f : FormP h) : reach_Black (h, ()) = some ((lst h).filter (bk h), ()) := by
 have hl := lst_len f
 have hr := lst_rng f
 have k0 : ((∀ i, i < (lst h).length → (!bk h ((lst h).getD i 0)) = false) ∧ reach_Black_l0 (((lst h).length : Int), 0, h, lst h, ()) = some (.out (h, lst h, ()))) ∨ ∃ i, i < (lst h).length ∧ (!bk h ((lst h).getD i 0)) = true ∧ (∀ j, j < i → (!bk h ((lst h).getD j 0)) = false) ∧ reach_Black_l0 (((lst h).length : Int), 0, h, lst h, ()) = some (.ret ((i : Int), h, lst h, ())) := by
  unfold reach_Black_l0
  refine scan_ruleI (P := fun i => !bk h ((lst h).getD i 0)) (fun i => (((lst h).length : Int), (i : Int), h, lst h, ())) (fun i hi => ?_) ?_ (by omega) rfl
  ·have hg := hr _ (List.getElem_mem hi)
   simp only [reach_Black_s0, reach_Black_s0r, Bool.cond_decide, Int.toNat_natCast, get_d _ _ _ hi, black_eq f (show -9223372036854775808 ≤ (lst h)[i] by omega) (by omega), Option.bind_some]
   rw [if_pos (show (i : Int) < ((lst h).length : Int) by omega), if_pos (show (0 : Int) ≤ (i : Int) by omega), if_pos (show (i : Int) < ((lst h).length : Int) by omega), wi64_id (n := (i : Int) + 1) (by omega) (by omega)]
   cases bk h (lst h)[i] <;> rfl
  ·simp only [reach_Black_s0, reach_Black_s0r, Bool.cond_decide]
   rw [if_neg (show ¬ (((lst h).length : Int) < ((lst h).length : Int)) by omega)]
 simp only [reach_Black, reach_Black_r, objList_eq f, Option.bind_some, ibeq, Bool.cond_decide]
 rcases k0 with ⟨hz, e0⟩ | ⟨i, hi, hp, hz, e0⟩
 ·have hself : (lst h).filter (bk h) = lst h := by
   rw [List.filter_eq_self]
   intro a ha
   obtain ⟨j, hj, rfl⟩ := List.mem_iff_getElem.1 ha
   have := hz j hj
   rw [get_d _ _ _ hj] at this
   simpa using this
  rw [e0, hself]
  rfl
 ·rw [get_d _ _ _ hi] at hp
  obtain ⟨k, q, e1, h1, h2, h3⟩ : ∃ (k : Nat) (q : List Int), reach_Black_l1 ((i : Int), (i : Int) + 1, h, lst h, ()) = some (.out ((k : Int), q, ())) ∧ k ≤ q.length ∧ q.length = (lst h).length ∧ q.take k = (lst h).filter (bk h) := by
   unfold reach_Black_l1
   refine del_rule (h := reach_Black_h1) (o := reach_Black_o1) (r := reach_Black_e1) (fuel := 9223372036854775808) (L := lst h) (keep := bk h) (lo := fun k q => ((k : Int), q, ())) (fun j k q => ((k : Int), (j : Int), h, q, ())) (fun j k q hj hkj hql hg => ?_) (fun k q hk hql => ?_) hi (by simpa using hp) (fun j hj hji => by
    have := hz j hji
    rw [get_d _ _ _ hj] at this
    simpa using this) (by omega) rfl
   ·have hg2 := hr _ (List.getElem_mem hj)
    have q1 : (j : Int) < ((lst h).length : Int) := by omega
    have q2 : (0 : Int) ≤ (j : Int) := by omega
    have q3 : (0 : Int) ≤ (k : Int) := by omega
    have q4 : (k : Int) < ((lst h).length : Int) := by omega
    simp only [reach_Black_s1, reach_Black_s1r, Bool.cond_decide, Int.toNat_natCast, hql, hg, if_pos q1, if_pos q2, if_pos q3, if_pos q4, black_eq f (show -9223372036854775808 ≤ (lst h)[j] by omega) (by omega), Option.bind_some]
    rw [wi64_id (n := (j : Int) + 1) (by omega) (by omega), wi64_id (n := (k : Int) + 1) (by omega) (by omega)]
    cases bk h (lst h)[j] <;> rfl
   ·simp only [reach_Black_s1, reach_Black_s1r, Bool.cond_decide, hql]
    rw [if_neg (show ¬ (((lst h).length : Int) < ((lst h).length : Int)) by omega)]
  have hi1 : ¬ (i : Int) = -1 := by omega
  simp only [e0, Option.bind_some, if_neg hi1]
  rw [wi64_id (n := (i : Int) + 1) (by omega) (by omega), e1]
  simp only [Option.bind_some, Int.toNat_natCast]
  rw [cut_len h1, cut_take h1, h3]
  rw [if_pos (show (0 : Int) ≤ (k : Int) by omega), if_pos (show (k : Int) ≤ (q.length : Int) by omega), if_pos (show (q.length : Int) ≤ (q.length : Int) by omega), if_pos (show (0 : Int) ≤ (k : Int) by omega), if_pos (show (k : Int) ≤ (q.length : Int) by omega)]
noncomputable def tellW (w : WrldT) : Conf := (w.2.2.2.2.2.2.1, (w.2.1.1.length : Int) - usN w.2.1 w.2.1.2.1.length, wsum w.2.1 ((lst w.2.1).filter (bk w.2.1)), wsum w.2.1 ((lst w.2.1).filter (bk w.2.1)) - wsum w.2.1 (heldO w), usN w.2.1 w.2.1.2.1.length - wsum w.2.1 ((lst w.2.1).filter (bk w.2.1)), ())
theorem tell_eq {w : WrldT} (ms : MsP w.2.2.1) (hv : ∀ v : Val, v ∈ heldL w.2.2.1 → -9223372036854775808 ≤ v.2.1 ∧ v.2.1 < 9223372036854775808) (p : HP w.2.1) : cycle_Tell (w, ()) = some (tellW w, ()) := by
 have f := p.f
 have hn := f.n16
 have hl := f.len
 have hll := lst_len f
 have hh : (heldL w.2.2.1).length ≤ 220 := by have := heldL_len ms.st; have := ms.len; omega
 have u := usN_rng w.2.1 w.2.1.2.1.length
 have w1 := wsum_nn w.2.1 ((lst w.2.1).filter (bk w.2.1))
 have w2 := wsum_le w.2.1 ((lst w.2.1).filter (bk w.2.1))
 have w3 := wsum_nn w.2.1 (heldO w)
 have w4 := wsum_le w.2.1 (heldO w)
 have l1 := filt_len f (bk w.2.1)
 have l2 : (heldO w).length ≤ 512 := filt_len f _
 have e1 := words15_eq f (l := (lst w.2.1).filter (bk w.2.1)) (rch_nodup w.2.1 (bk w.2.1)) (fun a ha => (mem_lst f).1 (List.mem_filter.1 ha).1)
 have e2 := words15_eq f (l := heldO w) (rch_nodup w.2.1 _) (fun a ha => (mem_lst f).1 (List.mem_filter.1 ha).1)
 have e3 : reach_From (w.2.1, heldL w.2.2.1, ()) = some (heldO w, ()) := from_eq f (by omega) hv
 simp only [cycle_Tell, cycle_Tell_r, used_eq f p.fr, reachBlack_eq f, Option.bind_some, e1, held_eq ms, e3, e2, tellW]
 rw [wi64_id (by omega) (by omega), wi64_id (by omega) (by omega), wi64_id (by omega) (by omega)]
theorem concatR_eq {a b : List Conf} (ha : a.length ≤ 1000000) (hb : b.length ≤ 1000) : slices_ConcatR ([a, b], ()) = some (a ++ b, ()) := by
 have w1 : wi64 1 = 1 := by kernel_rfl
 have w2 : wi64 2 = 2 := by kernel_rfl
 have wa : wi64 (a.length : Int) = a.length := wi64_id (by omega) (by omega)
 have wb : wi64 ((a.length : Int) + (b.length : Int)) = a.length + b.length := wi64_id (by omega) (by omega)
 have s0 : slices_ConcatR_s0 ([a, b], 0, [a, b], 2, 0, ()) = some (.next ([a, b], (a.length : Int), [a, b], 2, 1, ())) := by
  have n1 : ¬ ((a.length : Int) < 0) := by omega
  simp [slices_ConcatR_s0, slices_ConcatR_s0r, wa, w1, n1]
 have s1 : slices_ConcatR_s0 ([a, b], (a.length : Int), [a, b], 2, 1, ()) = some (.next ([a, b], ((a.length + b.length : Nat) : Int), [a, b], 2, 2, ())) := by
  have n1 : ¬ ((a.length : Int) + (b.length : Int) < 0) := by omega
  simp [slices_ConcatR_s0, slices_ConcatR_s0r, wb, w2, n1]
 have h0 : slices_ConcatR_l0 ([a, b], 0, [a, b], 2, 0, ()) = some (.out ([a, b], ((a.length + b.length : Nat) : Int), ())) := by
  unfold slices_ConcatR_l0
  refine iterL_run 2 (fun i => if i = 0 then ([a, b], 0, [a, b], 2, 0, ()) else if i = 1 then ([a, b], (a.length : Int), [a, b], 2, 1, ()) else ([a, b], ((a.length + b.length : Nat) : Int), [a, b], 2, 2, ())) (fun i hi => ?_) ?_ (by omega) rfl
  ·obtain rfl | rfl : i = 0 ∨ i = 1 := by omega
   ·exact s0
   ·exact s1
  ·simp only [slices_ConcatR_s0, slices_ConcatR_s0r]
   rfl
 have t0 : slices_ConcatR_s1 ([a, b], 2, 0, [], ()) = some (.next ([a, b], 2, 1, a, ())) := by
  have n1 : a.length * 40 ≤ 140737488355328 := by omega
  simp [slices_ConcatR_s1, slices_ConcatR_s1r, w1, n1]
 have t1 : slices_ConcatR_s1 ([a, b], 2, 1, a, ()) = some (.next ([a, b], 2, 2, a ++ b, ())) := by
  have n1 : (a.length + b.length) * 40 ≤ 140737488355328 := by omega
  simp [slices_ConcatR_s1, slices_ConcatR_s1r, w2, n1]
 have h1 : slices_ConcatR_l1 ([a, b], 2, 0, [], ()) = some (.out (a ++ b, ())) := by
  unfold slices_ConcatR_l1
  refine iterL_run 2 (fun i => if i = 0 then ([a, b], 2, 0, [], ()) else if i = 1 then ([a, b], 2, 1, a, ()) else ([a, b], 2, 2, a ++ b, ())) (fun i hi => ?_) ?_ (by omega) rfl
  ·obtain rfl | rfl : i = 0 ∨ i = 1 := by omega
   ·exact t0
   ·exact t1
  ·simp only [slices_ConcatR_s1, slices_ConcatR_s1r]
   rfl
 simp only [slices_ConcatR, slices_ConcatR_r, Bool.cond_decide]
 have e2 : (([a, b].length : Nat) : Int) = 2 := rfl
 rw [e2, h0, Option.bind_some]
 dsimp only
 have n0 : ¬ (((a.length + b.length : Nat) : Int) < 0) := by omega
 have n1 : (0 : Int) ≤ ((a.length + b.length : Nat) : Int) := by omega
 have n2 : (((a.length + b.length : Nat) : Int)).toNat * 40 ≤ 140737488355328 := by omega
 have w0 : wi64 (((a.length + b.length : Nat) : Int) - 0) = ((a.length + b.length : Nat) : Int) := by rw [wi64_id (by omega) (by omega)]; omega
 have w3 : wi64 ((a.length + b.length : Nat) : Int) = ((a.length + b.length : Nat) : Int) := wi64_id (by omega) (by omega)
 have e3 : ∀ l : List Conf, (l.drop 0).take 0 = [] := fun l => by simp
 rw [if_neg n0]
 simp only [e2, w0, w3, e3, h1, Option.bind_some]
 by_cases hz : ((a.length + b.length : Nat) : Int) > 0
 ·rw [if_pos hz, if_pos n1, if_pos n2, if_pos (Int.natCast_nonneg _)]
 ·rw [if_neg hz]
noncomputable def mkrW (w : WrldT) : WrldT × Int × Unit :=
 if w.2.2.2.2.1 = 0 then
  if w.2.2.2.2.2.1 = true then
   ((w.1, turnS w.2.1, w.2.2.1, markM w.1.2.2.2.1 w.1.2.2.2.2.1 w.2.2.1.length (heldL w.2.2.1 ++ pendL w.2.1 w.2.2.1), 1, false, wi64 (w.2.2.2.2.2.2.1 + 1), w.2.2.2.2.2.2.2), 3, ())
  else (w, 0, ())
 else if w.2.2.2.2.1 = 1 then
  if (stp w.2.1 w.2.2.2.1).2.2.1 = true then
   ((w.1, begS w.2.1, w.2.2.1, ((0, [], ()), [], [], 0, 0, 0, false, ()), 2, w.2.2.2.2.2.1, w.2.2.2.2.2.2.1, w.2.2.2.2.2.2.2.1 ++ [tellW w], ()), 4, ())
  else ((w.1, (stp w.2.1 w.2.2.2.1).1, w.2.2.1, (stp w.2.1 w.2.2.2.1).2.1, w.2.2.2.2), 1, ())
 else if w.2.2.2.2.1 = 2 then swpW w
 else (w, 0, ())
theorem marker_eq {w : WrldT} (ms : MsP w.2.2.1) (hv : ∀ v : Val, v ∈ heldL w.2.2.1 → -9223372036854775808 ≤ v.2.1 ∧ v.2.1 < 9223372036854775808) (p : HP w.2.1) (h4 : Row4 (cachesW w.2.2.1)) (hc : mayP w.1) (hm : w.2.2.2.2.1 = 1 → MkP w.2.1 w.2.2.2.1) (hr : w.2.2.2.2.2.2.2.1.length ≤ 1000000) : cycle_Marker (w, ()) = some (mkrW w) := by
 have hms := ms.len
 simp only [cycle_Marker, cycle_Marker_r, ibeq, Bool.cond_decide]
 unfold mkrW
 by_cases c0 : w.2.2.2.2.1 = 0
 ·rw [if_pos c0.symm, if_pos c0]
  simp only [cycle_idle, cycle_idle_r]
  cases e : w.2.2.2.2.2.1 with
  | false => simp only [Bool.not_false, cond_true, Option.bind_some, if_neg (show ¬ (false = true) by simp)]
  | true =>
   have hb := begin_eq p.f ms (x := w.1.1) (y := w.1.2.1) (z := w.1.2.2.1) (g := w.1.2.2.2.1) (b := w.1.2.2.2.2.1) hc.2.2.2.2.2.2.1 hc.2.2.2.2.2.2.2.1 hc.2.2.2.2.2.2.2.2.1 (by have := hc.2.2.2.2.2.2.2.2.2; omega)
   have hw : ((w.1.1, w.1.2.1, w.1.2.2.1, w.1.2.2.2.1, w.1.2.2.2.2.1, ()) : Conf) = w.1 := rfl
   rw [hw] at hb
   simp only [Bool.not_true, cond_false, hb, Option.bind_some, if_true]
 ·rw [if_neg (fun h => c0 h.symm), if_neg c0]
  by_cases c1 : w.2.2.2.2.1 = 1
  ·rw [if_pos c1.symm, if_pos c1]
   simp only [cycle_marking, cycle_marking_r, step_eq p.f (hm c1), Option.bind_some]
   cases e : (stp w.2.1 w.2.2.2.1).2.2.1 with
   | false => simp only [Bool.not_false, cond_true, Option.bind_some, if_neg (show ¬ (false = true) by simp)]
   | true =>
    have hw : (((tellW w).1, (tellW w).2.1, (tellW w).2.2.1, (tellW w).2.2.2.1, (tellW w).2.2.2.2.1, ()) : Conf) = tellW w := rfl
    simp only [Bool.not_true, cond_false, tell_eq ms hv p, Option.bind_some, hw, concatR_eq hr (show [tellW w].length ≤ 1000 by simp), sweepBegin_eq p.f, if_true]
  ·rw [if_neg (fun h => c1 h.symm), if_neg c1]
   by_cases c2 : w.2.2.2.2.1 = 2
   ·rw [if_pos c2.symm, if_pos c2, sweeper_eq p (by omega) h4]
    rfl
   ·rw [if_neg (fun h => c2 h.symm), if_neg c2]
end Go.Proofs.YtkjpakaidjpjgaaGreatDoor.Den
/- Pure laws: worlds alike with themselves; worlds copied. -/
namespace Go.Proofs.YtkjpakaidjpjgaaGreatDoor.Den
open Go
set_option linter.unusedVariables false
set_option linter.unusedSimpArgs false
set_option maxRecDepth 100000
structure SL (w : WrldT) : Prop where
 hw : w.2.1.1.length ≤ 1000
 hs : w.2.1.2.1.length ≤ 1000
 ml : w.2.2.1.length ≤ 1000
 st : ∀ m : MutT, m ∈ w.2.2.1 → m.1.length ≤ 1000
 gl : w.2.2.2.1.1.2.1.length ≤ 1000
 bl : w.2.2.2.1.2.1.length ≤ 1000
 il : ∀ g : Grey, g ∈ w.2.2.2.1.2.1 → g.2.1.length ≤ 1000
 rl : w.2.2.2.1.2.2.1.length ≤ 1000
 rp : w.2.2.2.2.2.2.2.1.length ≤ 1000
end Go.Proofs.YtkjpakaidjpjgaaGreatDoor.Den
/- Pure laws: worlds that fit. -/
namespace Go.Proofs.YtkjpakaidjpjgaaGreatDoor.Den
open Go
set_option linter.unusedVariables false
set_option linter.unusedSimpArgs false
set_option maxRecDepth 100000
theorem awake20 : w20_awake () = some (true, ()) := by kernel_rfl
structure WF (w : WrldT) : Prop where
 q : GA w
 p : HP w.2.1
 h4 : Row4 (cachesW w.2.2.1)
 hc : mayP w.1
 hm : w.2.2.2.2.1 = 1 → MkP w.2.1 w.2.2.2.1
 ph : 0 ≤ w.2.2.2.2.1 ∧ w.2.2.2.2.1 ≤ 2
 wl : w.2.1.1.length ≤ 160
 rp : w.2.2.2.2.2.2.2.1.length ≤ 50
theorem row4_of {ms : List MutT} (g : Good (.sl cMut) ms) : Row4 (cachesW ms) := by
 intro r hr
 obtain ⟨m, hm, rfl⟩ := List.mem_map.1 hr
 exact (g.2 m hm).2.2.2.2.2.1.1
theorem wf_of {w : WrldT} (gw : Good cWrld w) (q : GA w) (hw : w.2.1.1.length ≤ 160) (hr : w.2.2.2.2.2.2.2.1.length ≤ 50) (hf : formW w = true) : WF w := by
 have hf2 := hf
 unfold formW at hf
 simp only [Bool.and_eq_true, decide_eq_true_eq] at hf
 have gk : Good cMarker w.2.2.2.1 := gw.2.2.2.1
 refine ⟨q, hp_ofG gw.2.1 hf.2.1, row4_of gw.2.2.1, hf.1, fun e => ?_, hf.2.2.2.2.1, by omega, by omega⟩
 have h2 := hf.2.2.2.2.2.2.2
 unfold mkB at h2
 rw [if_pos e] at h2
 simp only [Bool.and_eq_true] at h2
 have := q.bl
 have := q.rl
 exact MkP.of gk h2.1 (by omega) (by omega)
theorem fits20_eq {w : WrldT} (gw : Good cWrld w) : ∃ b, w20_fits (w, ()) = some (b, ()) ∧ (b = true → WF w ∧ formW w = true) := by
 obtain ⟨b, eb, hb⟩ := few20_eq gw
 simp only [w20_fits, w20_fits_r, eb, Option.bind_some]
 cases b with
 | false => exact ⟨false, rfl, fun h => by cases h⟩
 | true =>
  obtain ⟨q, hw, hr⟩ := hb rfl
  simp only [cond_true, form20_eq q.g, Option.bind_some]
  exact ⟨_, rfl, fun h => ⟨wf_of gw q hw hr h, h⟩⟩
theorem WF.sl {w : WrldT} (F : WF w) : SL w := by
 have h1 := F.wl
 have h2 := F.rp
 have h3 := F.p.f.n16
 have q := F.q
 exact ⟨by omega, by omega, by have := q.g.ms.len; omega, fun m hm => by have := q.g.ms.st m hm; omega, by have := q.gl; omega, by have := q.bl; omega, fun g hg => by have := q.il g hg; omega, by have := q.rl; omega, by omega⟩
theorem WF.marker {w : WrldT} (F : WF w) : cycle_Marker (w, ()) = some (mkrW w) := marker_eq F.q.g.ms F.q.hv F.p F.h4 F.hc F.hm (by have := F.rp; omega)
end Go.Proofs.YtkjpakaidjpjgaaGreatDoor.Den
/- Pure laws: what marking keeps. -/
namespace Go.Proofs.YtkjpakaidjpjgaaGreatDoor.Den
open Go
set_option linter.unusedVariables false
set_option linter.unusedSimpArgs false
set_option maxRecDepth 100000
theorem okA_pn {h : Heap} (f : FormP h) (S : Int → Bool) (a : Int) : okA (pn h S) a = okA h a := ok_pn f S a
theorem cnt_pnA {h : Heap} (f : FormP h) (S : Int → Bool) {a : Int} (ho : okA h a = true) : cnt (pn h S) a = cnt h a := by
 unfold cnt
 rw [og_pn f, if_pos (show (og h a).2.1 = true from ho)]
theorem fe_pn {h : Heap} (f : FormP h) (S : Int → Bool) (a i : Int) : fe (pn h S) a i = fe h a i := by
 unfold fe
 rw [ok_pn f]
 by_cases ho : (og h a).2.1 = true
 ·rw [if_pos ho, if_pos ho, show (og (pn h S) a).1.2.2.2.1 = (og h a).1.2.2.2.1 from cnt_pnA f S ho]
 ·rw [if_neg ho, if_neg ho]
theorem bk_ok {h : Heap} {a : Int} (hb : bk h a = true) : okA h a = true := by
 unfold bk at hb
 rw [Bool.and_eq_true] at hb
 exact hb.1
inductive Shd (h : Heap) (g : Grey) (v : Val) : Heap → Grey → Bool → Prop
 | none : (v.1 = 2 → okA h v.2.1 = true → bk h v.2.1 = true) → Shd h g v h g false
 | push : v.1 = 2 → okA h v.2.1 = true → bk h v.2.1 = false → 0 ≤ v.2.1 → (g.2.1.length : Int) < g.1 → Shd h g v (pn h (fun b => v.2.1 == b)) (g.1, g.2.1 ++ [v.2.1], ()) false
 | full : v.1 = 2 → okA h v.2.1 = true → bk h v.2.1 = false → Shd h g v (pn h (fun b => v.2.1 == b)) g true
theorem shd {h : Heap} (f : FormP h) (g : Grey) (v : Val) : Shd h g v (sh h g v).1 (sh h g v).2.1 (sh h g v).2.2.1 := by
 unfold sh
 by_cases hc : v.1 = 2 ∧ (og h v.2.1).2.1 = true ∧ bk h v.2.1 = false
 ·rw [if_pos hc]
  obtain ⟨h1, h2, h3⟩ := hc
  have h0 := (fndB_rng (og_ok h2).1).1
  show Shd h g v (nh h v.2.1) (gp g v.2.1).1 (!(gp g v.2.1).2.1)
  rw [nh_pn f h2]
  unfold gp
  by_cases hr : v.2.1 < 0 ∨ g.1 ≤ g.2.1.length
  ·rw [if_pos hr]
   exact .full h1 h2 h3
  ·rw [if_neg hr]
   exact .push h1 h2 h3 h0 (by omega)
 ·rw [if_neg hc]
  refine .none fun h1 h2 => ?_
  cases h3 : bk h v.2.1 with
  | true => rfl
  | false => exact absurd ⟨h1, h2, h3⟩ hc
inductive Stp (h : Heap) : MarkT → Heap → MarkT → Prop
 | fld {g g' : Grey} {bs : List Grey} {rs : List Val} {o i c : Int} {v w : Bool} {h' : Heap} : o ≠ -1 → fe h o i = 0 → Shd h g (fldV h o i) h' g' w →
   Stp h (g, bs, rs, o, i, c, v, ()) h' (g', bs, rs, (if cnt h o ≤ i + 1 then -1 else o), (if cnt h o ≤ i + 1 then 0 else i + 1), c, v || w, ())
 | pop {r : Int} {l : List Int} {a : Int} {bs : List Grey} {rs : List Val} {c : Int} {v : Bool} : Stp h ((r, l ++ [a], ()), bs, rs, -1, 0, c, v, ()) h (hand h ((r, l, ()), bs, rs, -1, 0, c, v, ()) a)
 | row {g : Grey} {xs ys : List Grey} {r : Int} {l : List Int} {a : Int} {rs : List Val} {c : Int} {v : Bool} : Stp h (g, xs ++ (r, l ++ [a], ()) :: ys, rs, -1, 0, c, v, ()) h (hand h (g, xs ++ (r, l, ()) :: ys, rs, -1, 0, c, v, ()) a)
 | root {g g' : Grey} {bs : List Grey} {x : Val} {rs : List Val} {c : Int} {v w : Bool} {h' : Heap} : Shd h g x h' g' w → Stp h (g, bs, x :: rs, -1, 0, c, v, ()) h' (g', bs, rs, -1, 0, c, v || w, ())
 | cur {g : Grey} {bs : List Grey} {rs : List Val} {c : Int} {v : Bool} {a : Int} : c ≠ -1 → c ≤ a → bk h a = true → (∀ x, c ≤ x → bk h x = true → a ≤ x) → Stp h (g, bs, rs, -1, 0, c, v, ()) h (hand h (g, bs, rs, -1, 0, a + 1, v, ()) a)
 | noc {g : Grey} {bs : List Grey} {rs : List Val} {c : Int} {v : Bool} : c ≠ -1 → (∀ x, c ≤ x → bk h x = false) → Stp h (g, bs, rs, -1, 0, c, v, ()) h (g, bs, rs, -1, 0, -1, v, ())
 | ovr {g : Grey} {bs : List Grey} {rs : List Val} : Stp h (g, bs, rs, -1, 0, -1, true, ()) h (g, bs, rs, -1, 0, 0, false, ())
structure Dn (m : MarkT) : Prop where
 g : m.1.2.1 = []
 b : ∀ g ∈ m.2.1, g.2.1 = []
 r : m.2.2.1 = []
 o : m.2.2.2.1 = -1
 c : m.2.2.2.2.2.1 = -1
 v : m.2.2.2.2.2.2.1 = false
theorem concat_last {l : List Int} (h : l ≠ []) : l = initI l ++ [lastI l] := by
 have hp : 0 < l.length := List.length_pos_iff.2 h
 have e := List.take_append_getElem (l := l) (i := l.length - 1) (by omega)
 unfold initI lastI
 rw [get_d _ _ _ (by omega), e, List.take_of_length_le (by omega)]
theorem stp_cases {h : Heap} (f : FormP h) {m : MarkT} (p : MkP h m) : (stp h m = (h, m, true, ()) ∧ Dn m) ∨ ∃ h' m', stp h m = (h', m', false, ()) ∧ Stp h m h' m' := by
 obtain ⟨⟨gr, gl, ⟨⟩⟩, bs, rs, o, i, c, v, ⟨⟩⟩ := m
 unfold stp
 simp only
 by_cases ho : o = -1
 ·subst ho
  have hi : i = 0 := by
   rcases p.ob with h1 | h1
   ·exact h1.2
   ·have := (fndB_rng (og_ok (fe_ok h1).1).1).1
    simp only at this
    omega
  subst hi
  rw [if_pos rfl]
  by_cases hg : gl = []
  ·rw [if_pos hg]
   cases hf : fstB bs with
   | some k =>
    obtain ⟨k1, k2, -⟩ := fstB_some hf
    have hne : (bs.getD k (0, [], ())).2.1 ≠ [] := List.length_pos_iff.1 k2
    refine .inr ⟨_, _, rfl, ?_⟩
    have e1 : bs = bs.take k ++ ((bs.getD k (0, [], ())).1, initI (bs.getD k (0, [], ())).2.1 ++ [lastI (bs.getD k (0, [], ())).2.1], ()) :: bs.drop (k + 1) := by
     rw [← concat_last hne, get_d _ _ _ k1]
     exact (List.take_append_drop k bs).symm.trans (by rw [List.drop_eq_getElem_cons k1])
    have e2 : bs.set k (popG (bs.getD k (0, [], ()))).1 = bs.take k ++ ((bs.getD k (0, [], ())).1, initI (bs.getD k (0, [], ())).2.1, ()) :: bs.drop (k + 1) := by
     unfold popG
     rw [if_neg hne, List.set_eq_take_append_cons_drop, if_pos k1]
    rw [e2]
    have := @Stp.row h (gr, gl, ()) (bs.take k) (bs.drop (k + 1)) (bs.getD k (0, [], ())).1 (initI (bs.getD k (0, [], ())).2.1) (lastI (bs.getD k (0, [], ())).2.1) rs c v
    rw [← e1] at this
    exact this
   | none =>
    have hz := fstB_none hf
    cases rs with
    | cons x xs =>
     exact .inr ⟨_, _, rfl, .root (shd f _ _)⟩
    | nil =>
     simp only
     by_cases hc : c = -1
     ·subst hc
      rw [if_pos rfl]
      cases v with
      | true => exact .inr ⟨_, _, rfl, .ovr⟩
      | false =>
       refine .inl ⟨rfl, hg, fun g hg => ?_, rfl, rfl, rfl, rfl⟩
       obtain ⟨j, hj, rfl⟩ := List.getElem_of_mem hg
       have := hz j hj
       rw [get_d _ _ _ hj] at this
       exact List.eq_nil_of_length_eq_zero this
     ·rw [if_neg hc]
      cases hn : nxt h c with
      | some a =>
       unfold nxt at hn
       have h1 := List.find?_some hn
       rw [Bool.and_eq_true, decide_eq_true_eq] at h1
       refine .inr ⟨_, _, rfl, .cur hc h1.1 h1.2 fun x hx hb => ?_⟩
       obtain ⟨_, j, hj, e, hlt⟩ := List.find?_eq_some_iff_getElem.1 hn
       obtain ⟨k, hk, rfl⟩ := List.getElem_of_mem ((mem_lst f).2 (bk_ok hb))
       have hs := List.pairwise_iff_getElem.1 (lst_sorted h)
       rcases Nat.lt_trichotomy k j with hkj | hkj | hkj
       ·have := hlt k hkj
        rw [hb, decide_eq_true hx] at this
        cases this
       ·subst hkj; omega
       ·have := hs j k hj hk hkj
        omega
      | none =>
       unfold nxt at hn
       rw [List.find?_eq_none] at hn
       refine .inr ⟨_, _, rfl, .noc hc fun x hx => ?_⟩
       cases hb : bk h x with
       | false => rfl
       | true =>
        have := hn x ((mem_lst f).2 (bk_ok hb))
        rw [hb, decide_eq_true hx] at this
        exact absurd rfl this
  ·rw [if_neg hg]
   refine .inr ⟨_, _, rfl, ?_⟩
   have := @Stp.pop h gr (initI gl) (lastI gl) bs rs c v
   rw [← concat_last hg] at this
   simp only [popG, if_neg hg]
   exact this
 ·rw [if_neg ho]
  have he : fe h o i = 0 := p.ob.resolve_left fun h => ho h.1
  have := Stp.fld (g := (gr, gl, ())) (bs := bs) (rs := rs) (c := c) (v := v) ho he (shd f (gr, gl, ()) (fldV h o i))
  by_cases hc : cnt h o ≤ i + 1
  ·rw [if_pos hc]
   rw [if_pos hc, if_pos hc] at this
   exact .inr ⟨_, _, rfl, this⟩
  ·rw [if_neg hc]
   rw [if_neg hc, if_neg hc] at this
   exact .inr ⟨_, _, rfl, this⟩
end Go.Proofs.YtkjpakaidjpjgaaGreatDoor.Den
/- Pure laws: what marking keeps, and how long it goes on. -/
namespace Go.Proofs.YtkjpakaidjpjgaaGreatDoor.Den
open Go
set_option linter.unusedVariables false
set_option linter.unusedSimpArgs false
set_option maxRecDepth 100000
theorem bk_pn1 {h : Heap} (f : FormP h) (b a : Int) : bk (pn h (fun x => b == x)) a = true ↔ okA h a = true ∧ (b = a ∨ bk h a = true) := by
 rw [bk_pn f, Bool.and_eq_true, Bool.or_eq_true, beq_iff_eq]
 exact Iff.rfl
theorem Shd.paint {h h' : Heap} {g g' : Grey} {v : Val} {w : Bool} (s : Shd h g v h' g' w) : ∃ T, h' = pn h T := by
 cases s with
 | none _ => exact ⟨fun _ => false, pn_none.symm⟩
 | push _ _ _ _ _ => exact ⟨_, rfl⟩
 | full _ _ _ => exact ⟨_, rfl⟩
structure ShdF (h : Heap) (g : Grey) (v : Val) (h' : Heap) (g' : Grey) (w : Bool) : Prop where
 up : ∀ a, bk h a = true → bk h' a = true
 new : ∀ a, bk h' a = true → bk h a = true ∨ (v.1 = 2 ∧ v.2.1 = a ∧ okA h a = true ∧ (a ∈ g'.2.1 ∨ w = true))
 now : v.1 = 2 → okA h v.2.1 = true → bk h' v.2.1 = true
 iu : ∀ a, a ∈ g.2.1 → a ∈ g'.2.1
 inw : ∀ a, a ∈ g'.2.1 → a ∈ g.2.1 ∨ (v.1 = 2 ∧ v.2.1 = a ∧ okA h a = true)
 gr : GreyP g → GreyP g'
theorem Shd.facts {h h' : Heap} (f : FormP h) {g g' : Grey} {v : Val} {w : Bool} (s : Shd h g v h' g' w) : ShdF h g v h' g' w := by
 cases s with
 | none h1 => exact ⟨fun _ h => h, fun _ h => .inl h, h1, fun _ h => h, fun _ h => .inl h, fun h => h⟩
 | push h1 h2 h3 h4 h5 =>
  refine ⟨fun a ha => (bk_pn1 f _ _).2 ⟨bk_ok ha, .inr ha⟩, fun a ha => ?_, fun _ _ => (bk_pn1 f _ _).2 ⟨h2, .inl rfl⟩, fun a ha => List.mem_append_left _ ha, fun a ha => ?_, fun p => ⟨p.r0, p.r16, ?_⟩⟩
  ·obtain ⟨q1, q2 | q2⟩ := (bk_pn1 f _ _).1 ha
   ·exact .inr ⟨h1, q2, q1, .inl (by rw [← q2]; exact List.mem_append_right _ (List.mem_singleton.2 rfl))⟩
   ·exact .inl q2
  ·rcases List.mem_append.1 ha with ha | ha
   ·exact .inl ha
   ·have ha := List.mem_singleton.1 ha
    exact .inr ⟨h1, ha.symm, by rw [ha]; exact h2⟩
  ·show ((g.2.1 ++ [v.2.1]).length : Int) ≤ g.1
   rw [List.length_append, List.length_singleton]
   omega
 | full h1 h2 h3 =>
  refine ⟨fun a ha => (bk_pn1 f _ _).2 ⟨bk_ok ha, .inr ha⟩, fun a ha => ?_, fun _ _ => (bk_pn1 f _ _).2 ⟨h2, .inl rfl⟩, fun _ h => h, fun _ h => .inl h, fun h => h⟩
  obtain ⟨q1, q2 | q2⟩ := (bk_pn1 f _ _).1 ha
  ·exact .inr ⟨h1, q2, q1, .inr rfl⟩
  ·exact .inl q2
theorem hand_cases (h : Heap) (g : Grey) (bs : List Grey) (rs : List Val) (c : Int) (v : Bool) (a : Int) : (okA h a = true ∧ 0 < cnt h a ∧ hand h (g, bs, rs, -1, 0, c, v, ()) a = (g, bs, rs, a, 0, c, v, ())) ∨ (¬ (okA h a = true ∧ 0 < cnt h a) ∧ hand h (g, bs, rs, -1, 0, c, v, ()) a = (g, bs, rs, -1, 0, c, v, ())) := by
 unfold hand
 by_cases hc : (og h a).2.1 = true ∧ 0 < cnt h a
 ·rw [if_pos hc]; exact .inl ⟨hc.1, hc.2, rfl⟩
 ·rw [if_neg hc]; exact .inr ⟨hc, rfl⟩
theorem fe_0 {h : Heap} {a i : Int} (ho : okA h a = true) (h0 : 0 ≤ i) (h1 : i < cnt h a) : fe h a i = 0 := by
 unfold fe
 rw [if_pos (show (og h a).2.1 = true from ho), if_pos ⟨h0, h1⟩]
theorem hand_mk {h : Heap} (f : FormP h) {g : Grey} {bs : List Grey} {rs : List Val} {c : Int} {v : Bool} (a : Int) (p : MkP h (g, bs, rs, -1, 0, c, v, ())) : MkP h (hand h (g, bs, rs, -1, 0, c, v, ()) a) := by
 rcases hand_cases h g bs rs c v a with ⟨h1, h2, e⟩ | ⟨_, e⟩
 ·rw [e]
  exact ⟨p.g, p.gi, p.b, p.bi, p.bl, p.rl, p.rv, p.cur, .inr (fe_0 h1 (Int.le_refl 0) h2)⟩
 ·rw [e]; exact p
theorem Shd.inI {h h' : Heap} (f : FormP h) {g g' : Grey} {v : Val} {w : Bool} (s : Shd h g v h' g' w) (hi : ∀ a ∈ g.2.1, inI a) : ∀ a ∈ g'.2.1, inI a := by
 intro a ha
 rcases (s.facts f).inw a ha with h1 | ⟨_, _, h1⟩
 ·exact hi a h1
 ·have := og_rng f h1
  have := f.n16
  exact ⟨by omega, by omega⟩
theorem MkP.pn {h : Heap} (f : FormP h) (T : Int → Bool) {m : MarkT} (p : MkP h m) : MkP (pn h T) m :=
 ⟨p.g, p.gi, p.b, p.bi, p.bl, p.rl, p.rv, by rw [pn_len]; exact p.cur, by rw [fe_pn f]; exact p.ob⟩
theorem Stp.paint {h h' : Heap} {m m' : MarkT} (s : Stp h m h' m') : ∃ T, h' = pn h T := by
 cases s with
 | fld _ _ s => exact s.paint
 | root s => exact s.paint
 | _ => exact ⟨fun _ => false, pn_none.symm⟩
theorem Stp.mk {h h' : Heap} (f : FormP h) {m m' : MarkT} (s : Stp h m h' m') (p : MkP h m) : MkP h' m' := by
 cases s with
 | @fld g g' bs rs o i c v w h' ho he s =>
  obtain ⟨T, rfl⟩ := s.paint
  have sf := s.facts f
  have : MkP h (g', bs, rs, (if cnt h o ≤ i + 1 then -1 else o), (if cnt h o ≤ i + 1 then 0 else i + 1), c, v || w, ()) := by
   refine ⟨sf.gr p.g, s.inI f p.gi, p.b, p.bi, p.bl, p.rl, p.rv, p.cur, ?_⟩
   show ((if cnt h o ≤ i + 1 then -1 else o) = -1 ∧ (if cnt h o ≤ i + 1 then 0 else i + 1) = 0) ∨ fe h (if cnt h o ≤ i + 1 then -1 else o) (if cnt h o ≤ i + 1 then 0 else i + 1) = 0
   by_cases hc : cnt h o ≤ i + 1
   ·rw [if_pos hc, if_pos hc]; exact .inl ⟨rfl, rfl⟩
   ·rw [if_neg hc, if_neg hc]
    have := fe_ok he
    exact .inr (fe_0 this.1 (by omega) (by omega))
  exact this.pn f T
 | @pop r l a bs rs c v =>
  refine hand_mk f a ⟨⟨p.g.r0, p.g.r16, ?_⟩, fun x hx => p.gi x (List.mem_append_left _ hx), p.b, p.bi, p.bl, p.rl, p.rv, p.cur, p.ob⟩
  have := p.g.len
  simp only [List.length_append, List.length_singleton] at this
  show (l.length : Int) ≤ r
  omega
 | @row g xs ys r l a rs c v =>
  have hm : (r, l ++ [a], ()) ∈ xs ++ (r, l ++ [a], ()) :: ys := List.mem_append_right _ List.mem_cons_self
  have q := p.b _ hm
  have hr : ∀ x, x ∈ xs ++ (r, l, ()) :: ys → x = (r, l, ()) ∨ x ∈ xs ++ (r, l ++ [a], ()) :: ys := fun x hx => by
   rcases List.mem_append.1 hx with hx | hx
   ·exact .inr (List.mem_append_left _ hx)
   ·rcases List.mem_cons.1 hx with hx | hx
    ·exact .inl hx
    ·exact .inr (List.mem_append_right _ (List.mem_cons_of_mem _ hx))
  refine hand_mk f a ⟨p.g, p.gi, fun x hx => ?_, fun x hx => ?_, ?_, p.rl, p.rv, p.cur, p.ob⟩
  ·rcases hr x hx with rfl | hx
   ·refine ⟨q.r0, q.r16, ?_⟩
    have := q.len
    simp only [List.length_append, List.length_singleton] at this
    show (l.length : Int) ≤ r
    omega
   ·exact p.b x hx
  ·rcases hr x hx with rfl | hx
   ·exact fun y hy => p.bi _ hm y (List.mem_append_left _ hy)
   ·exact p.bi x hx
  ·have := p.bl
   simp only [List.length_append, List.length_cons] at this ⊢
   exact this
 | @root g g' bs x rs c v w h' s =>
  obtain ⟨T, rfl⟩ := s.paint
  have hrl := p.rl
  rw [List.length_cons] at hrl
  have : MkP h (g', bs, rs, -1, 0, c, v || w, ()) := ⟨(s.facts f).gr p.g, s.inI f p.gi, p.b, p.bi, p.bl, by show rs.length ≤ 1000; omega, fun y hy => p.rv y (List.mem_cons_of_mem _ hy), p.cur, p.ob⟩
  exact this.pn f T
 | @cur g bs rs c v a hc ha hb hx =>
  have h1 := og_rng f (bk_ok hb)
  have h2 := f.len
  refine hand_mk f a ⟨p.g, p.gi, p.b, p.bi, p.bl, p.rl, p.rv, ?_, p.ob⟩
  show -1 ≤ a + 1 ∧ a + 1 ≤ (h.1.length : Int)
  omega
 | noc hc hx =>
  exact ⟨p.g, p.gi, p.b, p.bi, p.bl, p.rl, p.rv, ⟨by show (-1 : Int) ≤ -1; omega, by show (-1 : Int) ≤ (h.1.length : Int); omega⟩, p.ob⟩
 | ovr =>
  exact ⟨p.g, p.gi, p.b, p.bi, p.bl, p.rl, p.rv, ⟨by show (-1 : Int) ≤ 0; omega, by show (0 : Int) ≤ (h.1.length : Int); omega⟩, p.ob⟩
def itm (m : MarkT) (a : Int) : Prop := a ∈ m.1.2.1 ∨ ∃ g ∈ m.2.1, a ∈ g.2.1
structure Snd (h0 : Heap) (vs : List Val) (h : Heap) (m : MarkT) : Prop where
 b : ∀ a, bk h a = true → Rch h0 vs a
 r : ∀ a, okA h0 a = true → named m.2.2.1 a = true → Rch h0 vs a
 i : ∀ a, okA h0 a = true → itm m a → Rch h0 vs a
 o : m.2.2.2.1 ≠ -1 → Rch h0 vs m.2.2.2.1
theorem Snd.hand {h0 h : Heap} (f0 : FormP h0) {S : Int → Bool} (e : h = pn h0 S) {vs : List Val} {g : Grey} {bs : List Grey} {rs : List Val} {c : Int} {v : Bool} {a : Int} (p : Snd h0 vs h (g, bs, rs, -1, 0, c, v, ())) (ha : okA h0 a = true → Rch h0 vs a) : Snd h0 vs h (hand h (g, bs, rs, -1, 0, c, v, ()) a) := by
 rcases hand_cases h g bs rs c v a with ⟨h1, h2, e'⟩ | ⟨_, e'⟩
 ·rw [e']
  rw [e, okA_pn f0] at h1
  exact ⟨p.b, p.r, p.i, fun _ => ha h1⟩
 ·rw [e']; exact p
end Go.Proofs.YtkjpakaidjpjgaaGreatDoor.Den
/- Pure laws: how long marking goes on. -/
namespace Go.Proofs.YtkjpakaidjpjgaaGreatDoor.Den
open Go
set_option linter.unusedVariables false
set_option linter.unusedSimpArgs false
set_option maxRecDepth 100000
theorem countP_up {α : Type} {p q : α → Bool} : ∀ {l : List α}, (∀ x ∈ l, q x = true → p x = true) → l.countP q ≤ l.countP p
 | [], _ => Nat.le_refl _
 | x :: l, h => by
  have ih := countP_up (p := p) (q := q) (l := l) fun y hy => h y (List.mem_cons_of_mem _ hy)
  rw [List.countP_cons, List.countP_cons]
  cases hq : q x with
  | true => rw [h x List.mem_cons_self hq]; simp; exact ih
  | false => cases p x <;> simp <;> omega
theorem countP_lt {α : Type} {p q : α → Bool} {a : α} : ∀ {l : List α}, (∀ x ∈ l, q x = true → p x = true) → a ∈ l → p a = true → q a = false → l.countP q + 1 ≤ l.countP p
 | x :: l, h, ha, h1, h2 => by
  have ih := countP_up (p := p) (q := q) (l := l) fun y hy => h y (List.mem_cons_of_mem _ hy)
  rw [List.countP_cons, List.countP_cons]
  rcases List.mem_cons.1 ha with rfl | ha
  ·rw [h1, h2]; simp; exact ih
  ·have ih := countP_lt (p := p) (q := q) (l := l) (fun y hy => h y (List.mem_cons_of_mem _ hy)) ha h1 h2
   cases hq : q x with
   | true => rw [h x List.mem_cons_self hq]; simp; omega
   | false => cases p x <;> simp <;> omega
def wht (h0 h : Heap) : Nat := (lst h0).countP fun a => !bk h a
def nit (m : MarkT) : Nat := m.1.2.1.length + (m.2.1.map fun g => g.2.1.length).sum
def ovP (h0 : Heap) (v : Bool) : Nat := if v = true then 17 * (lst h0).length + 2 else 0
def curP (h0 : Heap) (c : Int) : Nat := if c = -1 then 0 else 1 + 17 * (lst h0).countP fun a => decide (c ≤ a)
def hndP (h0 : Heap) (o i : Int) : Nat := if o = -1 then 0 else (cnt h0 o - i).toNat
def pot (h0 h : Heap) (m : MarkT) : Nat := wht h0 h * (17 * (lst h0).length + 8) + ovP h0 m.2.2.2.2.2.2.1 + curP h0 m.2.2.2.2.2.1 + m.2.2.1.length + 17 * nit m + hndP h0 m.2.2.2.1 m.2.2.2.2.1
theorem Shd.pot {h0 h h' : Heap} (f0 : FormP h0) {S : Int → Bool} (e : h = pn h0 S) {g g' : Grey} {v : Val} {w : Bool} (s : Shd h g v h' g' w) (b : Bool) :
  wht h0 h' * (17 * (lst h0).length + 8) + 17 * g'.2.1.length + ovP h0 (b || w) ≤ wht h0 h * (17 * (lst h0).length + 8) + 17 * g.2.1.length + ovP h0 b := by
 have f : FormP h := by rw [e]; exact f0.pn S
 have sf := s.facts f
 have less : v.1 = 2 → okA h v.2.1 = true → bk h v.2.1 = false → wht h0 h' * (17 * (lst h0).length + 8) + (17 * (lst h0).length + 8) ≤ wht h0 h * (17 * (lst h0).length + 8) ∧ 1 ≤ (lst h0).length := by
  intro h1 h2 h3
  have hm : v.2.1 ∈ lst h0 := (mem_lst f0).2 (by rw [← okA_pn f0 S, ← e]; exact h2)
  have : wht h0 h' + 1 ≤ wht h0 h := by
   refine countP_lt (fun x _ hx => ?_) hm (by rw [h3]; rfl) (by rw [sf.now h1 h2]; rfl)
   cases hb : bk h x with
   | false => rfl
   | true => rw [sf.up x hb] at hx; cases hx
  have h5 := Nat.mul_le_mul_right (17 * (lst h0).length + 8) this
  rw [Nat.add_mul, Nat.one_mul] at h5
  exact ⟨h5, List.length_pos_of_mem hm⟩
 cases s with
 | none h1 => rw [Bool.or_false]; exact Nat.le_refl _
 | push h1 h2 h3 h4 h5 =>
  obtain ⟨h6, h7⟩ := less h1 h2 h3
  rw [Bool.or_false]
  simp only [List.length_append, List.length_singleton]
  omega
 | full h1 h2 h3 =>
  obtain ⟨h6, h7⟩ := less h1 h2 h3
  rw [Bool.or_true]
  unfold ovP
  rw [if_pos rfl]
  split <;> omega
theorem hnd_hand {h0 h : Heap} (f0 : FormP h0) {S : Int → Bool} (e : h = pn h0 S) (g : Grey) (bs : List Grey) (rs : List Val) (c : Int) (v : Bool) (a : Int) : pot h0 h (hand h (g, bs, rs, -1, 0, c, v, ()) a) ≤ pot h0 h (g, bs, rs, -1, 0, c, v, ()) + 15 := by
 rcases hand_cases h g bs rs c v a with ⟨h1, h2, e'⟩ | ⟨_, e'⟩
 ·rw [e']
  rw [e, okA_pn f0] at h1
  have := og_rng f0 h1
  have e2 : cnt h0 a = (og h0 a).1.2.2.2.1 := rfl
  have : hndP h0 a 0 ≤ 15 := by
   unfold hndP
   split <;> omega
  show wht h0 h * (17 * (lst h0).length + 8) + ovP h0 v + curP h0 c + rs.length + 17 * nit (g, bs, rs, -1, 0, c, v, ()) + hndP h0 a 0 ≤ wht h0 h * (17 * (lst h0).length + 8) + ovP h0 v + curP h0 c + rs.length + 17 * nit (g, bs, rs, -1, 0, c, v, ()) + hndP h0 (-1) 0 + 15
  omega
 ·rw [e']; omega
theorem Stp.pot {h0 h h' : Heap} (f0 : FormP h0) {S : Int → Bool} (e : h = pn h0 S) {m m' : MarkT} (s : Stp h m h' m') : pot h0 h' m' + 1 ≤ pot h0 h m := by
 have f : FormP h := by rw [e]; exact f0.pn S
 cases s with
 | @fld g g' bs rs o i c v w h' ho he s =>
  have sp := s.pot f0 e v
  rw [e, fe_pn f0] at he
  obtain ⟨q1, q2, q3⟩ := fe_ok he
  have hc : cnt h o = cnt h0 o := by rw [e]; exact cnt_pnA f0 S q1
  have : hndP h0 (if cnt h o ≤ i + 1 then -1 else o) (if cnt h o ≤ i + 1 then 0 else i + 1) + 1 ≤ hndP h0 o i := by
   unfold hndP
   rw [hc, if_neg ho]
   by_cases hl : cnt h0 o ≤ i + 1
   ·rw [if_pos hl, if_pos hl, if_pos rfl]; omega
   ·rw [if_neg hl, if_neg hl, if_neg ho]; omega
  show wht h0 h' * (17 * (lst h0).length + 8) + ovP h0 (v || w) + curP h0 c + rs.length + 17 * (g'.2.1.length + (bs.map fun g => g.2.1.length).sum) + hndP h0 (if cnt h o ≤ i + 1 then -1 else o) (if cnt h o ≤ i + 1 then 0 else i + 1) + 1 ≤ wht h0 h * (17 * (lst h0).length + 8) + ovP h0 v + curP h0 c + rs.length + 17 * (g.2.1.length + (bs.map fun g => g.2.1.length).sum) + hndP h0 o i
  omega
 | @pop r l a bs rs c v =>
  have := hnd_hand f0 e (r, l, ()) bs rs c v a
  have e2 : Den.pot h0 h ((r, l ++ [a], ()), bs, rs, -1, 0, c, v, ()) = Den.pot h0 h ((r, l, ()), bs, rs, -1, 0, c, v, ()) + 17 := by
   simp only [Den.pot, nit, List.length_append, List.length_singleton]
   omega
  omega
 | @row g xs ys r l a rs c v =>
  have := hnd_hand f0 e g (xs ++ (r, l, ()) :: ys) rs c v a
  have e2 : Den.pot h0 h (g, xs ++ (r, l ++ [a], ()) :: ys, rs, -1, 0, c, v, ()) = Den.pot h0 h (g, xs ++ (r, l, ()) :: ys, rs, -1, 0, c, v, ()) + 17 := by
   simp only [Den.pot, nit, List.map_append, List.map_cons, List.sum_append, List.sum_cons, List.length_append, List.length_singleton]
   omega
  omega
 | @root g g' bs x rs c v w h' s =>
  have sp := s.pot f0 e v
  show wht h0 h' * (17 * (lst h0).length + 8) + ovP h0 (v || w) + curP h0 c + rs.length + 17 * (g'.2.1.length + (bs.map fun g => g.2.1.length).sum) + hndP h0 (-1) 0 + 1 ≤ wht h0 h * (17 * (lst h0).length + 8) + ovP h0 v + curP h0 c + (x :: rs).length + 17 * (g.2.1.length + (bs.map fun g => g.2.1.length).sum) + hndP h0 (-1) 0
  rw [List.length_cons]
  omega
 | @cur g bs rs c v a hc ha hb hx =>
  have h1 := hnd_hand f0 e g bs rs (a + 1) v a
  have h0' := (fndB_rng (og_ok (bk_ok hb)).1).1
  have hm : a ∈ lst h0 := (mem_lst f0).2 (by rw [← okA_pn f0 S, ← e]; exact bk_ok hb)
  have h2 : ((lst h0).countP fun x => decide (a + 1 ≤ x)) + 1 ≤ (lst h0).countP fun x => decide (c ≤ x) := by
   refine countP_lt (fun x _ hx => ?_) hm (decide_eq_true ha) (decide_eq_false (by omega))
   have hx := of_decide_eq_true hx
   exact decide_eq_true (by omega)
  have e2 : Den.pot h0 h (g, bs, rs, -1, 0, a + 1, v, ()) + 17 ≤ Den.pot h0 h (g, bs, rs, -1, 0, c, v, ()) := by
   show wht h0 h * (17 * (lst h0).length + 8) + ovP h0 v + curP h0 (a + 1) + rs.length + 17 * nit (g, bs, rs, -1, 0, c, v, ()) + hndP h0 (-1) 0 + 17 ≤ wht h0 h * (17 * (lst h0).length + 8) + ovP h0 v + curP h0 c + rs.length + 17 * nit (g, bs, rs, -1, 0, c, v, ()) + hndP h0 (-1) 0
   have n1 : ¬ a + 1 = -1 := by omega
   unfold curP
   rw [if_neg n1, if_neg hc]
   omega
  omega
 | @noc g bs rs c v hc hx =>
  show wht h0 h * (17 * (lst h0).length + 8) + ovP h0 v + curP h0 (-1) + rs.length + 17 * nit (g, bs, rs, -1, 0, c, v, ()) + hndP h0 (-1) 0 + 1 ≤ wht h0 h * (17 * (lst h0).length + 8) + ovP h0 v + curP h0 c + rs.length + 17 * nit (g, bs, rs, -1, 0, c, v, ()) + hndP h0 (-1) 0
  unfold curP
  rw [if_pos rfl, if_neg hc]
  omega
 | @ovr g bs rs =>
  have h1 : ((lst h0).countP fun x => decide ((0 : Int) ≤ x)) ≤ (lst h0).length := List.countP_le_length
  show wht h0 h * (17 * (lst h0).length + 8) + ovP h0 false + curP h0 0 + rs.length + 17 * nit (g, bs, rs, -1, 0, 0, false, ()) + hndP h0 (-1) 0 + 1 ≤ wht h0 h * (17 * (lst h0).length + 8) + ovP h0 true + curP h0 (-1) + rs.length + 17 * nit (g, bs, rs, -1, 0, 0, false, ()) + hndP h0 (-1) 0
  unfold curP ovP
  rw [if_pos rfl, if_neg (by decide), if_pos rfl, if_neg (by decide)]
  omega
def bnd (h : Heap) (m : MarkT) : Nat := ((lst h).length + 3) * (17 * (lst h).length + 8) + m.2.2.1.length + 17 * nit m + 20
theorem pot_le {h0 h : Heap} (f0 : FormP h0) {S : Int → Bool} (e : h = pn h0 S) {m : MarkT} (p : MkP h m) : pot h0 h m ≤ bnd h0 m := by
 have h1 : wht h0 h ≤ (lst h0).length := List.countP_le_length
 have h2 := Nat.mul_le_mul_right (17 * (lst h0).length + 8) h1
 have h3 : ovP h0 m.2.2.2.2.2.2.1 ≤ 17 * (lst h0).length + 2 := by unfold ovP; split <;> omega
 have h4 : curP h0 m.2.2.2.2.2.1 ≤ 1 + 17 * (lst h0).length := by
  have : ((lst h0).countP fun x => decide (m.2.2.2.2.2.1 ≤ x)) ≤ (lst h0).length := List.countP_le_length
  unfold curP; split <;> omega
 have h5 : hndP h0 m.2.2.2.1 m.2.2.2.2.1 ≤ 15 := by
  unfold hndP
  split
  ·omega
  ·rename_i hn
   have he := p.ob.resolve_left fun h => hn h.1
   rw [e, fe_pn f0] at he
   obtain ⟨q1, q2, q3⟩ := fe_ok he
   have := (og_rng f0 q1).2.2.2.2
   have e2 : cnt h0 m.2.2.2.1 = (og h0 m.2.2.2.1).1.2.2.2.1 := rfl
   omega
 unfold pot bnd
 rw [Nat.add_mul]
 omega
end Go.Proofs.YtkjpakaidjpjgaaGreatDoor.Den
/- Pure laws: the page that is found. -/
namespace Go.Proofs.YtkjpakaidjpjgaaGreatDoor.Den
open Go
set_option linter.unusedVariables false
set_option linter.unusedSimpArgs false
set_option maxRecDepth 100000
structure QueP (P : Nat → Bool) (n : Nat) (r : List Int) : Prop where
 lt : ∀ x ∈ r, x < n
 len : r.length ≤ n
 nil : r = [] → ∀ j, j < n → P j = false
 hd : r ≠ [] → ∃ i : Nat, i < n ∧ P i = true ∧ (∀ j, j < i → P j = false) ∧ r.getD 0 0 = (i : Int)
theorem QueP.zero (P : Nat → Bool) : QueP P 0 [] := ⟨fun x h => (by cases h), (by simp), fun _ j h => (by omega), fun h => absurd rfl h⟩
theorem QueP.push {P : Nat → Bool} {n : Nat} {r : List Int} (q : QueP P n r) (h : P n = true) : QueP P (n + 1) (r ++ [(n : Int)]) := by
 refine ⟨fun x hx => ?_, by rw [List.length_append]; have := q.len; simp; omega, fun e => by simp at e, fun _ => ?_⟩
 ·rcases List.mem_append.1 hx with hx | hx
  ·have := q.lt x hx; omega
  ·rw [List.mem_singleton] at hx; omega
 ·by_cases e : r = []
  ·subst e
   exact ⟨n, by omega, h, q.nil rfl, rfl⟩
  ·obtain ⟨i, a, b, c, d⟩ := q.hd e
   refine ⟨i, by omega, b, c, ?_⟩
   rw [← d]
   cases r with
   | nil => exact absurd rfl e
   | cons x r => rfl
end Go.Proofs.YtkjpakaidjpjgaaGreatDoor.Den
