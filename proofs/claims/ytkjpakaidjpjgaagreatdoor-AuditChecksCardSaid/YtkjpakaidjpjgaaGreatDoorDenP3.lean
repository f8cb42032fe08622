/- Pure laws. -/
import Derived.Test.YtkjpakaidjpjgaaGreatDoorDenP2
/- Pure laws: is a heap sound, by the document; is a world whole. -/
namespace Go.Proofs.YtkjpakaidjpjgaaGreatDoor.Den
open Go
set_option linter.unusedVariables false
set_option linter.unusedSimpArgs false
set_option maxRecDepth 100000
theorem allr_succ (P : Nat → Bool) (n : Nat) : (List.range (n + 1)).all P = ((List.range n).all P && P n) := by
 rw [List.range_succ, List.all_append]; simp
theorem allr_false {P : Nat → Bool} {n i : Nat} (hi : i < n) (h : P i = false) : ¬ (List.range n).all P = true := by
 intro ha
 rw [List.all_eq_true.1 ha i (List.mem_range.2 hi)] at h
 cases h
theorem pgB_use {h : Heap} {P : Nat → Nat → Bool} {p : Nat} (hs : stP h p ≠ 0) : pgB h P p = (List.range (pgN h p)).all (P p) := by
 unfold pgB
 congr 1
 funext i
 rw [decide_eq_false hs, Bool.false_or]
theorem pgB_free {h : Heap} {P : Nat → Nat → Bool} {p : Nat} (hs : stP h p = 0) : pgB h P p = true := pgB_all.2 (fun h => absurd hs h)
theorem check_l0 {h : Heap} (q : HP h) {p : Nat} (hp : p < h.2.1.length) (hs : stP h p ≠ 0) (bad : Int) :
  r09_Check_l0 (bad, (p : Int), cw (h.2.1.getD p sz).2.1, 0, h, h.2.1.getD p sz, ()) = some (if pgB h (filB h) p = true then .out (if pgB h (behB h) p = true then bad else 3, (p : Int), h, ()) else .ret (2, ())) := by
 have f := q.f
 have hn := f.n16
 have hl := f.len
 obtain ⟨w, b, hw, hb, ec, b16, hB⟩ := blk_of f hp
 obtain ⟨f0, f1⟩ := pg_free q hp
 have ew : cw (h.2.1.getD p sz).2.1 = (w : Int) := by
  by_cases e : 0 < b
  ·exact (hB 0 e).cw_
  ·obtain ⟨w', b', e1, e2, e3, _⟩ := pg_class f hp
   unfold pgN at hb; rw [e2] at hb; omega
 rw [pgB_use hs, pgB_use hs, hb, ew]
 have key : ∃ l, r09_Check_l0 (bad, (p : Int), (w : Int), 0, h, h.2.1.getD p sz, ()) = some l ∧ l = (if (List.range b).all (filB h p) = true then .out (if (List.range b).all (behB h p) = true then bad else 3, (p : Int), h, ()) else .ret (2, ())) := by
  unfold r09_Check_l0
  refine iterL_rule (fun m x => ∃ i : Nat, i ≤ b ∧ m = b - i ∧ x = (if (List.range i).all (behB h p) = true then bad else 3, (p : Int), (w : Int), (i : Int), h, h.2.1.getD p sz, ()) ∧ (List.range i).all (filB h p) = true) ?_ _ b _ (by omega) ⟨0, by omega, rfl, rfl, rfl⟩
  rintro m x ⟨i, i1, rfl, rfl, hz⟩
  simp only [r09_Check_s0, r09_Check_s0r, Bool.cond_decide, blocks4_eq, Option.bind_some, ec, ibne]
  by_cases hi : i < b
  ·have B := hB i hi
   have hwb := B.wb
   have hin := B.in_
   have hB2 := B.two
   have ea : ((32 * p + i * w : Nat) : Int) = (blA h p i : Int) := by rw [B.a_]
   have eb : blA h p i + w ≤ h.1.length := by rw [B.a_]; omega
   rw [if_pos (show (i : Int) < (b : Int) by omega), has_eq f0 f1, Option.bind_some, decide_eq_true (p := (0 : Int) ≤ (i : Int) ∧ (i : Int) ≤ 31) (by omega), Bool.true_and, Int.toNat_natCast, at_ref (by omega) (by omega), ea]
   rw [wi64_id (n := (i : Int) + 1) (by omega) (by omega), nought_eq eb (by omega), objGet8_eq f]
   simp only [Option.bind_some]
   have hfr : bit (h.2.1.getD p sz).2.2.1 i = freB h p i := rfl
   rw [hfr]
   cases e : freB h p i with
   | true =>
    have hbe : behB h p i = true := by unfold behB; rw [e]; rfl
    simp only [cond_true]
    cases e2 : clrB h (blA h p i) w with
    | false =>
     have hfi : filB h p i = false := by unfold filB; rw [if_pos e, B.w_]; exact e2
     exact .inr ⟨_, rfl, by rw [if_neg (allr_false hi hfi)]⟩
    | true =>
     have hfi : filB h p i = true := by unfold filB; rw [if_pos e, B.w_]; exact e2
     exact .inl ⟨b - (i + 1), _, by omega, rfl, i + 1, by omega, rfl, by rw [allr_succ, hbe, Bool.and_true]; rfl, by rw [allr_succ, hz, hfi]; rfl⟩
   | false =>
    have hne : ¬ freB h p i = true := by rw [e]; simp
    simp only [cond_false]
    cases e2 : (og h (blA h p i)).2.1 with
    | false =>
     have hfi : filB h p i = false := by unfold filB okA; rw [if_neg hne, e2]; rfl
     exact .inr ⟨_, rfl, by rw [if_neg (allr_false hi hfi)]⟩
    | true =>
     simp only [Bool.not_true, cond_false]
     by_cases e3 : (og h (blA h p i)).1.2.2.1 = (h.2.1.getD p sz).2.1
     ·have hfi : filB h p i = true := by unfold filB okA; rw [if_neg hne, e2, decide_eq_true e3]; rfl
      have hc := ok_cnt f (a := (blA h p i : Int)) e2
      rw [e3, ew] at hc
      obtain ⟨c, hcc⟩ : ∃ c : Nat, cnt h (blA h p i) = c := ⟨_, (Int.toNat_of_nonneg hc.1).symm⟩
      have hcc2 : (og h (blA h p i)).1.2.2.2.1 = (c : Int) := hcc
      rw [hcc] at hc
      rw [if_neg (fun hh => hh e3)]
      simp only [hcc2]
      rw [wi64_id (n := (blA h p i : Int) + 1) (by omega) (by omega), wi64_id (n := (blA h p i : Int) + 1 + (c : Int)) (by omega) (by omega), wi64_id (n := (w : Int) - 1) (by omega) (by omega), wi64_id (n := (w : Int) - 1 - (c : Int)) (by omega) (by omega)]
      have en := nought_eq (h := h) (a := blA h p i + 1 + c) (n := w - 1 - c) (by omega) (by omega)
      rw [show ((blA h p i + 1 + c : Nat) : Int) = (blA h p i : Int) + 1 + (c : Int) by omega, show ((w - 1 - c : Nat) : Int) = (w : Int) - 1 - (c : Int) by omega] at en
      rw [en, Option.bind_some]
      have hbe : behB h p i = clrB h (blA h p i + 1 + c) (w - 1 - c) := by unfold behB; rw [e, hcc, B.w_, Int.toNat_natCast, Bool.false_or]
      cases e4 : clrB h (blA h p i + 1 + c) (w - 1 - c) with
      | true =>
       exact .inl ⟨b - (i + 1), _, by omega, rfl, i + 1, by omega, rfl, by rw [allr_succ, hbe, e4, Bool.and_true]; rfl, by rw [allr_succ, hz, hfi]; rfl⟩
      | false =>
       exact .inl ⟨b - (i + 1), _, by omega, rfl, i + 1, by omega, rfl, by rw [allr_succ, hbe, e4, Bool.and_false]; rfl, by rw [allr_succ, hz, hfi]; rfl⟩
     ·have hfi : filB h p i = false := by unfold filB okA; rw [if_neg hne, e2, decide_eq_false e3]; rfl
      rw [if_pos e3]
      exact .inr ⟨_, rfl, by rw [if_neg (allr_false hi hfi)]⟩
  ·obtain rfl : i = b := by omega
   rw [if_neg (show ¬ ((i : Int) < (i : Int)) by omega)]
   exact .inr ⟨_, rfl, by rw [if_pos hz]⟩
 obtain ⟨l, e, rfl⟩ := key
 exact e
def fulB (h : Heap) (p : Nat) : Bool := (!decide (stP h p = 0) || clrB h (32 * p) 32) && pgB h (filB h) p
theorem allr_and (P Q : Nat → Bool) : ∀ n, (List.range n).all (fun i => P i && Q i) = ((List.range n).all P && (List.range n).all Q)
 | 0 => rfl
 | n + 1 => by
  rw [allr_succ, allr_succ, allr_succ, allr_and P Q n]
  cases (List.range n).all P <;> cases (List.range n).all Q <;> cases P n <;> cases Q n <;> rfl
theorem filled_ful (h : Heap) : filledB h = (List.range h.2.1.length).all (fulB h) := by
 unfold filledB frsB pgsB fulB
 rw [allr_and]
theorem check_l1 {h : Heap} (q : HP h) : r09_Check_l1 (0, 0, h, ()) = some (if filledB h = true then .out (if behindB h = true then 0 else 3, h, ()) else .ret (2, ())) := by
 have f := q.f
 have hn := f.n16
 have hl := f.len
 rw [filled_ful]
 unfold behindB pgsB
 have key : ∃ l, r09_Check_l1 (0, 0, h, ()) = some l ∧ l = (if (List.range h.2.1.length).all (fulB h) = true then .out (if (List.range h.2.1.length).all (pgB h (behB h)) = true then 0 else 3, h, ()) else .ret (2, ())) := by
  unfold r09_Check_l1
  refine iterL_rule (fun m x => ∃ p : Nat, p ≤ h.2.1.length ∧ m = h.2.1.length - p ∧ x = (if (List.range p).all (pgB h (behB h)) = true then 0 else 3, (p : Int), h, ()) ∧ (List.range p).all (fulB h) = true) ?_ _ h.2.1.length _ (by omega) ⟨0, by omega, rfl, rfl, rfl⟩
  rintro m x ⟨p, p1, rfl, rfl, hz⟩
  simp only [r09_Check_s1, r09_Check_s1r, Bool.cond_decide, words4_eq, Option.bind_some, ibeq, Int.toNat_natCast]
  simp only [show ((0 : Int), (0 : Int), (0 : Int), ()) = sz from rfl]
  by_cases hp : p < h.2.1.length
  ·rw [if_pos (show (p : Int) < (h.2.1.length : Int) by omega), if_pos (show (0 : Int) ≤ (p : Int) by omega), if_pos (show (p : Int) < (h.2.1.length : Int) by omega)]
   by_cases hs : (h.2.1.getD p sz).1 = 0
   ·have hs' : stP h p = 0 := hs
    have e := nought_eq (h := h) (a := 32 * p) (n := 32) (by omega) (by omega)
    rw [show ((32 * p : Nat) : Int) = 32 * (p : Int) by omega, show ((32 : Nat) : Int) = (32 : Int) from rfl] at e
    rw [if_pos hs, wi64_id (n := 32 * (p : Int)) (by omega) (by omega), wi64_id (n := (p : Int) + 1) (by omega) (by omega), e, Option.bind_some]
    cases e2 : clrB h (32 * p) 32 with
    | false =>
     have hfi : fulB h p = false := by unfold fulB; rw [e2, decide_eq_true hs']; rfl
     exact .inr ⟨_, rfl, by rw [if_neg (allr_false hp hfi)]⟩
    | true =>
     have hfi : fulB h p = true := by unfold fulB; rw [e2, pgB_free hs']; simp
     have hbe : pgB h (behB h) p = true := pgB_free hs'
     exact .inl ⟨h.2.1.length - (p + 1), _, by omega, rfl, p + 1, by omega, rfl, by rw [allr_succ, hbe, Bool.and_true]; rfl, by rw [allr_succ, hz, hfi]; rfl⟩
   ·have hs' : stP h p ≠ 0 := hs
    rw [if_neg hs, check_l0 q hp hs', Option.bind_some]
    have hfi : fulB h p = pgB h (filB h) p := by unfold fulB; rw [decide_eq_false hs']; simp
    cases e2 : pgB h (filB h) p with
    | false => exact .inr ⟨_, rfl, by rw [if_neg (allr_false hp (hfi.trans e2))]⟩
    | true =>
     simp only [if_true]
     rw [wi64_id (n := (p : Int) + 1) (by omega) (by omega)]
     refine .inl ⟨h.2.1.length - (p + 1), _, by omega, rfl, p + 1, by omega, rfl, ?_, by rw [allr_succ, hz, hfi, e2]; rfl⟩
     rw [allr_succ]
     cases pgB h (behB h) p
     ·rw [Bool.and_false]; rfl
     ·rw [Bool.and_true]; rfl
  ·obtain rfl : p = h.2.1.length := by omega
   rw [if_neg (show ¬ ((h.2.1.length : Int) < (h.2.1.length : Int)) by omega)]
   exact .inr ⟨_, rfl, by rw [if_pos hz]⟩
 obtain ⟨l, e, rfl⟩ := key
 exact e
def rfdB (h : Heap) (a : Int) : Bool := !(decide ((spanOf h a).1 = 1) || bk h a) || (refsO h a).all (okA h)
theorem fnd_blk {h : Heap} (f : FormP h) {a : Int} (hf : fndB h a = true) : ∃ p i : Nat, p < h.2.1.length ∧ stP h p ≠ 0 ∧ i < pgN h p ∧ (blA h p i : Int) = a ∧ spanOf h a = h.2.1.getD p sz := by
 have hr := fndB_rng hf
 obtain ⟨n, rfl⟩ : ∃ n : Nat, a = n := ⟨a.toNat, by omega⟩
 have hb := of_decide_eq_true hf
 have hp : n / 32 < h.2.1.length := by omega
 have hsp : spanOf h (n : Int) = h.2.1.getD (n / 32) sz := by unfold spanOf; congr 1
 rw [hsp] at hb
 obtain ⟨w, b, hw, hbb, ec, b16, hB⟩ := blk_of f hp
 obtain ⟨w', b', e1, e2, e3, e4⟩ := pg_class f hp
 have hww : w' = w := by unfold pgW at hw; rw [e1] at hw; omega
 have hbb' : b' = b := by rw [e2] at ec; omega
 subst hww hbb'
 have hm := hb.2.2.2
 rw [e1] at hm
 have hm' : n % w' = 0 := by omega
 have hi : n % 32 / w' < b' := by
  rcases e3 with ⟨rfl, rfl⟩ | ⟨rfl, rfl⟩ | ⟨rfl, rfl⟩ | ⟨rfl, rfl⟩ <;> omega
 refine ⟨n / 32, n % 32 / w', hp, hb.2.2.1, by omega, ?_, hsp⟩
 rw [(hB _ hi).a_]
 have : n % 32 / w' * w' = n % 32 := by
  rcases e3 with ⟨rfl, rfl⟩ | ⟨rfl, rfl⟩ | ⟨rfl, rfl⟩ | ⟨rfl, rfl⟩ <;> omega
 rw [this]
 omega
theorem blk_fnd {h : Heap} (f : FormP h) {p i : Nat} (hp : p < h.2.1.length) (hs : stP h p ≠ 0) (hi : i < pgN h p) : fndB h (blA h p i) = true ∧ spanOf h (blA h p i) = h.2.1.getD p sz := by
 obtain ⟨w, b, hw, hb, ec, b16, hB⟩ := blk_of f hp
 have B := hB i (by omega)
 have hin := B.in_
 have h2 := B.two
 have hsp : spanOf h (blA h p i) = h.2.1.getD p sz := by
  unfold spanOf
  rw [B.a_, show (((32 * p + i * w : Nat) : Int) / 32).toNat = p by omega]
 refine ⟨?_, hsp⟩
 unfold fndB
 rw [hsp, B.cw_, B.a_]
 refine decide_eq_true ⟨by omega, by omega, hs, ?_⟩
 have hm := B.md
 rcases B.wb with ⟨e, _⟩ | ⟨e, _⟩ | ⟨e, _⟩ | ⟨e, _⟩ <;> subst e <;> omega
theorem refer_lst {h : Heap} (f : FormP h) : referB h = (lst h).all (rfdB h) := by
 rw [Bool.eq_iff_iff]
 constructor
 ·intro hr
  rw [List.all_eq_true]
  intro a ha
  have ho := (mem_lst f).1 ha
  obtain ⟨p, i, hp, hs, hi, rfl, hsp⟩ := fnd_blk f (okA_find ho)
  have := pgB_all.1 (List.all_eq_true.1 hr p (List.mem_range.2 hp)) hs i hi
  unfold rfdB
  rw [hsp]
  exact this
 ·intro hr
  unfold referB pgsB
  rw [List.all_eq_true]
  intro p hp
  have hp := List.mem_range.1 hp
  refine pgB_all.2 fun hs i hi => ?_
  obtain ⟨_, hsp⟩ := blk_fnd f hp hs hi
  cases ho : okA h (blA h p i) with
  | true =>
   have := List.all_eq_true.1 hr _ ((mem_lst f).2 ho)
   unfold rfdB at this
   rw [hsp] at this
   exact this
  | false =>
   unfold refB
   rw [refs_no ho]
   simp
theorem check_l2 {h : Heap} (f : FormP h) (i : Int) {l : List Int} (hl : l.length ≤ 100) : r09_Check_l2 (i, 0, h, lst h, l, ()) = some (if l.all (okA h) = true then .out (i, h, lst h, ()) else .ret (4, ())) := by
 have hll := lst_len f
 have key : ScanR (l.any fun a => !okA h a) l.length (r09_Check_l2 (i, 0, h, lst h, l, ())) (i, h, lst h, ()) (fun _ => (4, ())) := by
  unfold r09_Check_l2
  refine scan_any (fun k => (i, (k : Int), h, lst h, l, ())) (fun k hk => ?_) ?_ (by omega) rfl
  ·simp only [r09_Check_s2, r09_Check_s2r, Bool.cond_decide, Int.toNat_natCast, get_d _ _ _ hk, in8_eq _ _ (show (lst h).length < 9223372036854775807 by omega), Option.bind_some]
   rw [if_pos (by omega), if_pos (by omega), if_pos (by omega), wi64_id (n := (k : Int) + 1) (by omega) (by omega)]
   by_cases e : okA h l[k] = true
   ·rw [decide_eq_true ((mem_lst f).2 e), e]; rfl
   ·rw [decide_eq_false (fun hh => e ((mem_lst f).1 hh))]
    simp only [Bool.not_eq_true] at e
    rw [e]; rfl
  ·simp only [r09_Check_s2, r09_Check_s2r, Bool.cond_decide]
   rw [if_neg (by omega)]
 rw [any_not] at key
 rcases key with ⟨e1, e⟩ | ⟨e1, k, hk, e⟩
 ·simp only [Bool.not_eq_false'] at e1
  rw [e, if_pos e1]
 ·simp only [Bool.not_eq_true'] at e1
  rw [e, if_neg (by rw [e1]; simp)]
theorem check_l3 {h : Heap} (f : FormP h) : ScanR (!(lst h).all (rfdB h)) (lst h).length (r09_Check_l3 (0, h, lst h, ())) () (fun _ => (4, ())) := by
 have hn := f.n16
 have hl := f.len
 have hll := lst_len f
 rw [← any_not]
 unfold r09_Check_l3
 refine scan_any (fun k => ((k : Int), h, lst h, ())) (fun k hk => ?_) ?_ (by omega) rfl
 ·have ho := (mem_lst f).1 (List.getElem_mem hk)
  have hr := fndB_rng (og_ok ho).1
  simp only [r09_Check_s3, r09_Check_s3r, Bool.cond_decide, Int.toNat_natCast, get_d _ _ _ hk, ibne, black8_eq f, Option.bind_some]
  rw [Int.tdiv_eq_ediv_of_nonneg hr.1, wi64_id (n := (lst h)[k] / 32) (by omega) (by omega), wi64_id (n := (k : Int) + 1) (by omega) (by omega)]
  simp only [show ((0 : Int), (0 : Int), (0 : Int), ()) = sz from rfl]
  have hsp : h.2.1.getD ((lst h)[k] / 32).toNat sz = spanOf h (lst h)[k] := rfl
  rw [hsp]
  have e8 : r08_Refs (h, (lst h)[k], ()) = some (refsO h (lst h)[k], ()) := refs8_eq f ho
  have hrl := refs_len f (lst h)[k]
  simp only [e8, Option.bind_some, check_l2 f (k : Int) (l := refsO h (lst h)[k]) (by omega)]
  have p1 : (k : Int) < ((lst h).length : Int) := by omega
  have p2 : (0 : Int) ≤ (k : Int) := by omega
  have p3 : (0 : Int) ≤ (lst h)[k] / 32 := by omega
  have p4 : (lst h)[k] / 32 < (h.2.1.length : Int) := by omega
  simp only [if_pos p1, if_pos p2, if_pos p3, if_pos p4]
  by_cases e : (spanOf h (lst h)[k]).1 = 1
  ·have hx : rfdB h (lst h)[k] = (refsO h (lst h)[k]).all (okA h) := by unfold rfdB; rw [decide_eq_true e]; simp
   rw [if_neg (fun hh => hh e), hx]
   cases (refsO h (lst h)[k]).all (okA h)
   ·rfl
   ·simp only [if_true, Option.bind_some]
    rw [wi64_id (n := (k : Int) + 1) (by omega) (by omega)]
    rfl
  ·have hx : rfdB h (lst h)[k] = (!bk h (lst h)[k] || (refsO h (lst h)[k]).all (okA h)) := by unfold rfdB; rw [decide_eq_false e]; simp
   rw [if_pos e, hx]
   cases bk h (lst h)[k]
   ·rfl
   ·simp only [Bool.not_true, cond_false, Bool.false_or]
    cases (refsO h (lst h)[k]).all (okA h)
    ·rfl
    ·simp only [if_true, Option.bind_some]
     rw [wi64_id (n := (k : Int) + 1) (by omega) (by omega)]
     rfl
 ·simp only [r09_Check_s3, r09_Check_s3r, Bool.cond_decide]
  rw [if_neg (show ¬ (((lst h).length : Int) < ((lst h).length : Int)) by omega)]
theorem check9_eq {h : Heap} (g : Good cHeap h) : r09_Check (h, ()) = some (chkH h, ()) := by
 simp only [r09_Check, r09_Check_r, form_eq g, Option.bind_some, chkH]
 cases hb : formB h
 ·rfl
 have q := hp_ofG g hb
 simp only [Bool.not_true, cond_false, check_l1 q, Option.bind_some, if_true]
 cases filledB h
 ·rfl
 simp only [if_true]
 cases behindB h
 ·rfl
 simp only [if_true, ibne, Bool.cond_decide, list_eq q.f, Option.bind_some]
 rw [if_neg (by simp), refer_lst q.f]
 rcases check_l3 q.f with ⟨e1, e⟩ | ⟨e1, k, hk, e⟩
 ·simp only [Bool.not_eq_false'] at e1
  rw [e, e1]; rfl
 ·simp only [Bool.not_eq_true'] at e1
  rw [e, e1]; rfl
noncomputable def wholeW (w : WrldT) : Bool := formW w && (decide (chkH w.2.1 = 0) && rdyW w)
theorem worldWhole_eq {w : WrldT} (q : GW w) : world_Whole (w, ()) = some (wholeW w, ()) := by
 have hms := q.ms.len
 have hsp := q.sp
 have key : ScanR (w.2.2.1.any fun m => !rdyB w.1.2.2.1 m) w.2.2.1.length (world_Whole_l0 (w.2.2.1, (w.2.2.1.length : Int), 0, w, ())) () (fun i => ((i : Int), ())) := by
  unfold world_Whole_l0
  refine scan_any (fun i => (w.2.2.1, (w.2.2.1.length : Int), (i : Int), w, ())) (fun i hi => ?_) ?_ (by omega) rfl
  ·simp only [world_Whole_s0, world_Whole_s0r, Bool.cond_decide, Int.toNat_natCast, worldReady_eq, Option.bind_some]
   simp only [show (([] : List Val), (0 : Int), ((0 : Int), (0 : Int), (0 : Int), (0 : Int), ()), (0 : Int), ((0 : Int), (0 : Int), ()), List.replicate 4 (0 : Int), ()) = mz from rfl, get_d w.2.2.1 i mz hi]
   rw [if_pos (by omega), if_pos (by omega), if_pos (by omega), wi64_id (n := (i : Int) + 1) (by omega) (by omega)]
   cases rdyB w.1.2.2.1 w.2.2.1[i] <;> rfl
  ·simp only [world_Whole_s0, world_Whole_s0r, Bool.cond_decide]
   rw [if_neg (by omega)]
 rw [any_not] at key
 simp only [world_Whole, world_Whole_r, cycleForm_eq q, Option.bind_some, wholeW, sound_Ok, sound_Ok_r, soundCheck_eq q.gh (by omega), ibeq]
 cases formW w
 ·rfl
 simp only [cond_true, Bool.true_and]
 cases decide (chkH w.2.1 = 0)
 ·rfl
 simp only [cond_true, Bool.true_and, rdyW]
 rcases key with ⟨e1, e⟩ | ⟨e1, i, hi, e⟩
 ·simp only [Bool.not_eq_false'] at e1
  simp only [e, e1, Option.bind_some]
 ·simp only [Bool.not_eq_true'] at e1
  simp only [e, e1, Option.bind_some, decide_eq_true (show (i : Int) ≥ 0 by omega), Bool.not_true]
theorem whole22_eq {w : WrldT} (q : GW w) : r22_Whole (w, ()) = some (wholeW w, ()) := by
 have hms := q.ms.len
 simp only [r22_Whole, r22_Whole_r, form20_eq q, Option.bind_some, wholeW, check9_eq q.gh, ready21_eq (w := w) (by omega), ibeq]
 cases formW w
 ·rfl
 simp only [cond_true, Bool.true_and]
 cases decide (chkH w.2.1 = 0) <;> rfl
end Go.Proofs.YtkjpakaidjpjgaaGreatDoor.Den
/- Pure laws: audit, by the program and by the document. -/
namespace Go.Proofs.YtkjpakaidjpjgaaGreatDoor.Den
open Go
set_option linter.unusedVariables false
set_option linter.unusedSimpArgs false
set_option maxRecDepth 100000
def dcnt (h : Heap) : Nat := h.2.1.countP fun s => decide (s.1 = 2)
theorem dcnt_take (l : List Span) (i : Nat) (hi : i < l.length) : (l.take (i + 1)).countP (fun s => decide (s.1 = 2)) = (l.take i).countP (fun s => decide (s.1 = 2)) + if (l[i] : Span).1 = 2 then 1 else 0 := by
 rw [← List.take_append_getElem hi, List.countP_append, List.countP_cons, List.countP_nil]
 simp
theorem countP_take (l : List Span) (p : Span → Bool) (i : Nat) : (l.take i).countP p ≤ i := by
 have := List.countP_le_length (p := p) (l := l.take i)
 rw [List.length_take] at this
 omega
theorem dirty_eq {h : Heap} (hl : h.2.1.length ≤ 1000) : sweep_Dirty (h, ()) = some ((dcnt h : Int), ()) := by
 have key : sweep_Dirty_l0 (0, h.2.1, (h.2.1.length : Int), 0, ()) = some (.out ((dcnt h : Int), ())) := by
  unfold sweep_Dirty_l0
  refine iterL_run h.2.1.length (fun i => ((((h.2.1.take i).countP fun s => decide (s.1 = 2) : Nat) : Int), h.2.1, (h.2.1.length : Int), (i : Int), ())) (fun i hi => ?_) ?_ (by omega) rfl
  ·have hc := countP_take h.2.1 (fun s => decide (s.1 = 2)) i
   simp only [sweep_Dirty_s0, sweep_Dirty_s0r, sweep_dirty, sweep_dirty_r, Bool.cond_decide, Int.toNat_natCast, Option.bind_some, ibeq]
   simp only [show ((0 : Int), (0 : Int), (0 : Int), ()) = sz from rfl, get_d h.2.1 i sz hi]
   rw [if_pos (show (i : Int) < (h.2.1.length : Int) by omega), if_pos (show (0 : Int) ≤ (i : Int) by omega), if_pos (show (i : Int) < (h.2.1.length : Int) by omega), wi64_id (n := (i : Int) + 1) (by omega) (by omega), dcnt_take _ _ hi]
   by_cases e : (h.2.1[i] : Span).1 = 2
   ·rw [if_pos e, if_pos e, wi64_id (by omega) (by omega)]
    rfl
   ·rw [if_neg e, if_neg e]
    rfl
  ·simp only [sweep_Dirty_s0, sweep_Dirty_s0r, Bool.cond_decide]
   rw [if_neg (by omega), List.take_of_length_le (Nat.le_refl _)]
   rfl
 simp only [sweep_Dirty, sweep_Dirty_r, key, Option.bind_some]
theorem dirty12_eq {h : Heap} (hl : h.2.1.length ≤ 1000) : r12_Dirty (h, ()) = some ((dcnt h : Int), ()) := by
 have key : r12_Dirty_l0 (0, 0, h, ()) = some (.out ((dcnt h : Int), ())) := by
  unfold r12_Dirty_l0
  refine iterL_run h.2.1.length (fun i => ((((h.2.1.take i).countP fun s => decide (s.1 = 2) : Nat) : Int), (i : Int), h, ())) (fun i hi => ?_) ?_ (by omega) rfl
  ·have hc := countP_take h.2.1 (fun s => decide (s.1 = 2)) i
   simp only [r12_Dirty_s0, r12_Dirty_s0r, Bool.cond_decide, Int.toNat_natCast, ibeq]
   simp only [show ((0 : Int), (0 : Int), (0 : Int), ()) = sz from rfl, get_d h.2.1 i sz hi]
   rw [if_pos (show (i : Int) < (h.2.1.length : Int) by omega), if_pos (show (0 : Int) ≤ (i : Int) by omega), if_pos (show (i : Int) < (h.2.1.length : Int) by omega), wi64_id (n := (i : Int) + 1) (by omega) (by omega), dcnt_take _ _ hi]
   by_cases e : (h.2.1[i] : Span).1 = 2
   ·rw [if_pos e, if_pos e, wi64_id (by omega) (by omega)]
    rfl
   ·rw [if_neg e, if_neg e]
    rfl
  ·simp only [r12_Dirty_s0, r12_Dirty_s0r, Bool.cond_decide]
   rw [if_neg (by omega), List.take_of_length_le (Nat.le_refl _)]
   rfl
 simp only [r12_Dirty, r12_Dirty_r, key, Option.bind_some]
def itV (g : Grey) : List Val := g.2.1.map fun a => (2, a, ())
def todoL (m : MarkT) : List Val := m.2.2.1 ++ (m.2.1.flatMap itV ++ itV m.1) ++ [(2, m.2.2.2.1, ())]
structure GA (w : WrldT) : Prop where
 g : GW w
 hv : ∀ v : Val, v ∈ heldL w.2.2.1 → -9223372036854775808 ≤ v.2.1 ∧ v.2.1 < 9223372036854775808
 tv : ∀ v : Val, v ∈ todoL w.2.2.2.1 → -9223372036854775808 ≤ v.2.1 ∧ v.2.1 < 9223372036854775808
 rl : w.2.2.2.1.2.2.1.length ≤ 700
 gl : w.2.2.2.1.1.2.1.length ≤ 20
 bl : w.2.2.2.1.2.1.length ≤ 10
 il : ∀ g ∈ w.2.2.2.1.2.1, g.2.1.length ≤ 20
theorem itV_take (g : Grey) (i : Nat) (hi : i < g.2.1.length) : (itV g).take (i + 1) = (itV g).take i ++ [(2, g.2.1[i], ())] := by
 unfold itV
 rw [← List.map_take, ← List.map_take, ← List.take_append_getElem hi, List.map_append]
 rfl
theorem itV_len (g : Grey) : (itV g).length = g.2.1.length := by unfold itV; rw [List.length_map]
theorem flat_len_le {l : List Grey} {n : Nat} (h : ∀ g ∈ l, g.2.1.length ≤ n) : (l.flatMap itV).length ≤ n * l.length := by
 induction l with
 | nil => simp
 | cons g l ih =>
  rw [List.flatMap_cons, List.length_append, itV_len, List.length_cons, Nat.mul_succ]
  have h1 := h g List.mem_cons_self
  have h2 := ih fun x hx => h x (List.mem_cons_of_mem _ hx)
  omega
theorem todo_l0 (v23 v24 : Int) (w : WrldT) (gs : List Grey) (acc : List Val) (g : Grey) (hg : g.2.1.length ≤ 1000) (ha : acc.length ≤ 10000) :
  audit_todo_l0 (v23, v24, g.2.1, (g.2.1.length : Int), 0, w, gs, acc, ()) = some (.out (v23, v24, w, gs, acc ++ itV g, ())) := by
 unfold audit_todo_l0
 refine iterL_run g.2.1.length (fun i => (v23, v24, g.2.1, (g.2.1.length : Int), (i : Int), w, gs, acc ++ (itV g).take i, ())) (fun i hi => ?_) ?_ (by omega) (by simp)
 ·have hl : (acc ++ (itV g).take i).length = acc.length + i := by
   rw [List.length_append, List.length_take, itV_len]; omega
  simp only [audit_todo_s0, audit_todo_s0r, Bool.cond_decide, Int.toNat_natCast, get_d _ _ _ hi, hl]
  rw [if_pos (show (i : Int) < (g.2.1.length : Int) by omega), if_pos (show (0 : Int) ≤ (i : Int) by omega), if_pos (show (i : Int) < (g.2.1.length : Int) by omega), if_pos (show (acc.length + i + 1) * 16 ≤ 140737488355328 by omega), wi64_id (n := (i : Int) + 1) (by omega) (by omega), itV_take g i hi, List.append_assoc]
  rfl
 ·simp only [audit_todo_s0, audit_todo_s0r, Bool.cond_decide]
  rw [if_neg (show ¬ ((g.2.1.length : Int) < (g.2.1.length : Int)) by omega), List.take_of_length_le (by rw [itV_len]; omega)]
theorem todo_l1 (w : WrldT) (gs : List Grey) (acc : List Val) (hgs : gs.length ≤ 20) (hg : ∀ g ∈ gs, g.2.1.length ≤ 20) (ha : acc.length ≤ 1000) :
  audit_todo_l1 ((gs.length : Int), 0, w, gs, acc, ()) = some (.out (w, acc ++ gs.flatMap itV, ())) := by
 unfold audit_todo_l1
 refine iterL_run gs.length (fun i => ((gs.length : Int), (i : Int), w, gs, acc ++ (gs.take i).flatMap itV, ())) (fun i hi => ?_) ?_ (by omega) (by simp)
 ·have h1 := flat_len_le (l := gs.take i) (n := 20) fun g hgm => hg g (List.mem_of_mem_take hgm)
  have h2 : (gs.take i).length ≤ 20 := by rw [List.length_take]; omega
  have hl : (acc ++ (gs.take i).flatMap itV).length ≤ 10000 := by rw [List.length_append]; omega
  have hgi := hg _ (List.getElem_mem hi)
  simp only [audit_todo_s1, audit_todo_s1r, Bool.cond_decide, Int.toNat_natCast, get_d _ _ _ hi]
  rw [if_pos (show (i : Int) < (gs.length : Int) by omega), if_pos (show (0 : Int) ≤ (i : Int) by omega), if_pos (show (i : Int) < (gs.length : Int) by omega), todo_l0 _ _ _ _ _ _ (by omega) hl, Option.bind_some]
  simp only []
  rw [wi64_id (n := (i : Int) + 1) (by omega) (by omega), flat_take itV gs i hi, List.append_assoc]
  rfl
 ·simp only [audit_todo_s1, audit_todo_s1r, Bool.cond_decide]
  rw [if_neg (show ¬ ((gs.length : Int) < (gs.length : Int)) by omega), List.take_of_length_le (Nat.le_refl _)]
theorem todoL_len {w : WrldT} (q : GA w) : (todoL w.2.2.2.1).length ≤ 950 := by
 have h1 := flat_len_le q.il
 have := q.bl
 have := q.rl
 have := q.gl
 unfold todoL
 rw [List.length_append, List.length_append, List.length_append, itV_len, List.length_singleton]
 omega
theorem todo_eq {w : WrldT} (q : GA w) (f : FormP w.2.1) : audit_todo (w, ()) = some ((lst w.2.1).filter (rchB w.2.1 (todoL w.2.2.2.1)), ()) := by
 have hl := todoL_len q
 have h0 := q.bl
 have h1 := q.rl
 have h2 := q.gl
 have hgs : ∀ g ∈ w.2.2.2.1.2.1 ++ [w.2.2.2.1.1], g.2.1.length ≤ 20 := by
  intro g hg
  rcases List.mem_append.1 hg with hg | hg
  ·exact q.il g hg
  ·simp at hg; subst hg; exact h2
 have hgl : (w.2.2.2.1.2.1 ++ [w.2.2.2.1.1]).length = w.2.2.2.1.2.1.length + 1 := by simp
 have k := todo_l1 w (w.2.2.2.1.2.1 ++ [w.2.2.2.1.1]) w.2.2.2.1.2.2.1 (by omega) hgs (by omega)
 have hfm : (w.2.2.2.1.2.1 ++ [w.2.2.2.1.1]).flatMap itV = w.2.2.2.1.2.1.flatMap itV ++ itV w.2.2.2.1.1 := by simp
 rw [hfm] at k
 simp only [audit_todo, audit_todo_r, cloneV_eq (show w.2.2.2.1.2.2.1.length ≤ 1000000 by omega), cloneG_eq (show w.2.2.2.1.2.1.length ≤ 1000000 by omega), Option.bind_some, Bool.cond_decide]
 rw [if_pos (by omega)]
 simp only [k, Option.bind_some]
 have hd : w.2.2.2.1.2.2.1 ++ (w.2.2.2.1.2.1.flatMap itV ++ itV w.2.2.2.1.1) ++ [(2, w.2.2.2.1.2.2.2.1, ())] = todoL w.2.2.2.1 := rfl
 have hd1 : (w.2.2.2.1.2.2.1 ++ (w.2.2.2.1.2.1.flatMap itV ++ itV w.2.2.2.1.1)).length + 1 = (todoL w.2.2.2.1).length := by rw [← hd]; simp only [List.length_append, List.length_singleton]
 rw [if_pos (by omega), hd, from_eq f (by omega) q.tv]
 rfl
theorem todo23_l0 (m : MarkT) (i : Nat) (hi : i < m.2.1.length) (hb : m.2.1.length ≤ 1000) (hg : (m.2.1[i]).2.1.length ≤ 1000) (acc : List Val) (ha : acc.length ≤ 10000) :
  r23_Todo_l0 ((i : Int), 0, m, acc, ()) = some (.out ((i : Int), m, acc ++ itV m.2.1[i], ())) := by
 unfold r23_Todo_l0
 refine iterL_run (m.2.1[i]).2.1.length (fun k => ((i : Int), (k : Int), m, acc ++ (itV m.2.1[i]).take k, ())) (fun k hk => ?_) ?_ (by omega) (by simp)
 ·have hl : (acc ++ (itV m.2.1[i]).take k).length = acc.length + k := by
   rw [List.length_append, List.length_take, itV_len]; omega
  simp only [r23_Todo_s0, r23_Todo_s0r, Bool.cond_decide, Int.toNat_natCast, get_d _ _ _ hi, get_d _ _ _ hk, hl]
  have p1 : (0 : Int) ≤ (i : Int) := by omega
  have p2 : (i : Int) < (m.2.1.length : Int) := by omega
  have p3 : (k : Int) < ((m.2.1[i]).2.1.length : Int) := by omega
  have p4 : (0 : Int) ≤ (k : Int) := by omega
  simp only [if_pos p1, if_pos p2, if_pos p3, if_pos p4]
  rw [if_pos (show (acc.length + k + 1) * 16 ≤ 140737488355328 by omega), wi64_id (n := (k : Int) + 1) (by omega) (by omega), itV_take _ k hk, List.append_assoc]
  rfl
 ·simp only [r23_Todo_s0, r23_Todo_s0r, Bool.cond_decide, Int.toNat_natCast, get_d _ _ _ hi]
  rw [if_pos (show (0 : Int) ≤ (i : Int) by omega), if_pos (show (i : Int) < (m.2.1.length : Int) by omega), if_neg (show ¬ (((m.2.1[i]).2.1.length : Int) < ((m.2.1[i]).2.1.length : Int)) by omega), List.take_of_length_le (by rw [itV_len]; omega)]
theorem todo23_eq {w : WrldT} (q : GA w) : r23_Todo (w.2.2.2.1, ()) = some (todoL w.2.2.2.1, ()) := by
 have hl := todoL_len q
 have h0 := q.bl
 have h1 := q.rl
 have h2 := q.gl
 obtain ⟨m, hm⟩ : ∃ m : MarkT, w.2.2.2.1 = m := ⟨_, rfl⟩
 have il := q.il
 rw [hm] at hl h0 h1 h2 il ⊢
 have k1 : r23_Todo_l1 (0, m, m.2.2.1, ()) = some (.out (m, m.2.2.1 ++ m.2.1.flatMap itV, ())) := by
  unfold r23_Todo_l1
  refine iterL_run m.2.1.length (fun i => ((i : Int), m, m.2.2.1 ++ (m.2.1.take i).flatMap itV, ())) (fun i hi => ?_) ?_ (by omega) (by simp)
  ·have a1 := flat_len_le (l := m.2.1.take i) (n := 20) fun g hgm => il g (List.mem_of_mem_take hgm)
   have a2 : (m.2.1.take i).length ≤ 10 := by rw [List.length_take]; omega
   have a3 : (m.2.2.1 ++ (m.2.1.take i).flatMap itV).length ≤ 10000 := by rw [List.length_append]; omega
   have a4 := il _ (List.getElem_mem hi)
   simp only [r23_Todo_s1, r23_Todo_s1r, Bool.cond_decide]
   rw [if_pos (show (i : Int) < (m.2.1.length : Int) by omega), todo23_l0 m i hi (by omega) (by omega) _ a3, Option.bind_some]
   simp only []
   rw [wi64_id (n := (i : Int) + 1) (by omega) (by omega), flat_take itV m.2.1 i hi, List.append_assoc]
   rfl
  ·simp only [r23_Todo_s1, r23_Todo_s1r, Bool.cond_decide]
   rw [if_neg (show ¬ ((m.2.1.length : Int) < (m.2.1.length : Int)) by omega), List.take_of_length_le (Nat.le_refl _)]
 have a5 := flat_len_le il
 have a6 : (m.2.2.1 ++ m.2.1.flatMap itV).length ≤ 900 := by rw [List.length_append]; omega
 have k2 : r23_Todo_l2 (0, m, m.2.2.1 ++ m.2.1.flatMap itV, ()) = some (.out (m, m.2.2.1 ++ m.2.1.flatMap itV ++ itV m.1, ())) := by
  unfold r23_Todo_l2
  refine iterL_run m.1.2.1.length (fun i => ((i : Int), m, m.2.2.1 ++ m.2.1.flatMap itV ++ (itV m.1).take i, ())) (fun i hi => ?_) ?_ (by omega) (by simp)
  ·have a7 : (m.2.2.1 ++ m.2.1.flatMap itV ++ (itV m.1).take i).length ≤ 930 := by rw [List.length_append, List.length_take, itV_len]; omega
   simp only [r23_Todo_s2, r23_Todo_s2r, Bool.cond_decide, Int.toNat_natCast, get_d _ _ _ hi]
   rw [if_pos (show (i : Int) < (m.1.2.1.length : Int) by omega), if_pos (show (0 : Int) ≤ (i : Int) by omega), if_pos (show (i : Int) < (m.1.2.1.length : Int) by omega), if_pos (by omega), wi64_id (n := (i : Int) + 1) (by omega) (by omega), itV_take m.1 i hi, List.append_assoc (m.2.2.1 ++ m.2.1.flatMap itV)]
   rfl
  ·simp only [r23_Todo_s2, r23_Todo_s2r, Bool.cond_decide]
   rw [if_neg (show ¬ ((m.1.2.1.length : Int) < (m.1.2.1.length : Int)) by omega), List.take_of_length_le (by rw [itV_len]; omega)]
 have hd : m.2.2.1 ++ m.2.1.flatMap itV ++ itV m.1 ++ [(2, m.2.2.2.1, ())] = todoL m := by unfold todoL; simp only [List.append_assoc]
 have hd1 : (m.2.2.1 ++ m.2.1.flatMap itV ++ itV m.1).length + 1 = (todoL m).length := by rw [← hd]; simp only [List.length_append, List.length_singleton]
 simp only [r23_Todo, r23_Todo_r, Bool.cond_decide]
 rw [if_pos (by omega)]
 simp only [k1, Option.bind_some, k2]
 rw [if_pos (by omega), hd]
theorem auditBlack_eq {w : WrldT} (f : FormP w.2.1) {l : List Int} (hl : l.length ≤ 1000000) (hr : ∀ a ∈ l, (-9223372036854775808 : Int) ≤ a ∧ a < 9223372036854775808) : audit_black (w, l, ()) = some (l.all (bk w.2.1), ()) := by
 have key : ScanR (l.any fun a => !bk w.2.1 a) l.length (audit_black_l0 (l, (l.length : Int), 0, w, ())) () (fun i => ((i : Int), ())) := by
  unfold audit_black_l0
  refine scan_any (fun i => (l, (l.length : Int), (i : Int), w, ())) (fun i hi => ?_) ?_ (by omega) rfl
  ·have h1 := hr _ (List.getElem_mem hi)
   simp only [audit_black_s0, audit_black_s0r, Bool.cond_decide, Int.toNat_natCast, get_d _ _ _ hi, black_eq f h1.1 h1.2, Option.bind_some]
   rw [if_pos (show (i : Int) < (l.length : Int) by omega), if_pos (show (0 : Int) ≤ (i : Int) by omega), if_pos (show (i : Int) < (l.length : Int) by omega), wi64_id (n := (i : Int) + 1) (by omega) (by omega)]
   cases bk w.2.1 l[i] <;> rfl
  ·simp only [audit_black_s0, audit_black_s0r, Bool.cond_decide]
   rw [if_neg (show ¬ ((l.length : Int) < (l.length : Int)) by omega)]
 rw [any_not] at key
 simp only [audit_black, audit_black_r]
 rcases key with ⟨e1, e⟩ | ⟨e1, i, hi, e⟩
 ·simp only [Bool.not_eq_false'] at e1
  simp only [e, e1, Option.bind_some]
 ·simp only [Bool.not_eq_true'] at e1
  simp only [e, e1, Option.bind_some, decide_eq_true (show (i : Int) ≥ 0 by omega), Bool.not_true]
theorem lst_rng {h : Heap} (f : FormP h) : ∀ a ∈ lst h, (0 : Int) ≤ a ∧ a < 512 := by
 intro a ha
 have := fndB_rng (og_ok ((mem_lst f).1 ha)).1
 have := f.n16
 omega
theorem auditObjects_eq {w : WrldT} (q : GA w) (f : FormP w.2.1) : audit_objects (w, ()) = some ((vrefs (heldL w.2.2.1)).all (okA w.2.1), ()) := by
 have hh := (q.g.ms.take w.2.1 w.2.2.1.length).1
 rw [List.take_of_length_le (Nat.le_refl _)] at hh
 have hvl := vrefs_len (heldL w.2.2.1)
 have hr : ∀ a ∈ vrefs (heldL w.2.2.1), (-9223372036854775808 : Int) ≤ a ∧ a < 9223372036854775808 := by
  intro a ha
  unfold vrefs at ha
  obtain ⟨v, hv, rfl⟩ := List.mem_map.1 ha
  exact q.hv v (List.mem_filter.1 hv).1
 obtain ⟨l, hlq⟩ : ∃ l, vrefs (heldL w.2.2.1) = l := ⟨_, rfl⟩
 simp only [audit_objects, audit_objects_r, held_eq q.g.ms, refs14_eq (show (heldL w.2.2.1).length ≤ 1000000 by omega), Option.bind_some]
 rw [hlq] at hr hvl ⊢
 have key : ScanR (l.any fun a => !okA w.2.1 a) l.length (audit_objects_l0 ((l.length : Int), 0, w, l, ())) () (fun i => ((i : Int), ())) := by
  unfold audit_objects_l0
  refine scan_any (fun i => ((l.length : Int), (i : Int), w, l, ())) (fun i hi => ?_) ?_ (by omega) rfl
  ·have h1 := hr _ (List.getElem_mem hi)
   simp only [audit_objects_s0, audit_objects_s0r, Bool.cond_decide, Int.toNat_natCast, get_d _ _ _ hi, objGet_eq f h1.1 h1.2, Option.bind_some]
   rw [if_pos (show (i : Int) < (l.length : Int) by omega), if_pos (show (0 : Int) ≤ (i : Int) by omega), if_pos (show (i : Int) < (l.length : Int) by omega), wi64_id (n := (i : Int) + 1) (by omega) (by omega)]
   unfold okA
   cases (og w.2.1 l[i]).2.1 <;> rfl
  ·simp only [audit_objects_s0, audit_objects_s0r, Bool.cond_decide]
   rw [if_neg (show ¬ ((l.length : Int) < (l.length : Int)) by omega)]
 rw [any_not] at key
 rcases key with ⟨e1, e⟩ | ⟨e1, i, hi, e⟩
 ·simp only [Bool.not_eq_false'] at e1
  simp only [e, e1, Option.bind_some]
 ·simp only [Bool.not_eq_true'] at e1
  simp only [e, e1, Option.bind_some, decide_eq_true (show (i : Int) ≥ 0 by omega), Bool.not_true]
theorem mid_eqX {lo hi : Nat} (h1 : lo ≤ 1000000) (h2 : hi ≤ 1000000) : wi64 (shiftI false .u64 (wu64 (wi64 ((lo : Int) + (hi : Int)))) 1) = (((lo + hi) / 2 : Nat) : Int) := by
 rw [wi64_id (n := (lo : Int) + (hi : Int)) (by omega) (by omega), wu64_id (by omega) (by omega)]
 have e2 : shiftI false .u64 ((lo : Int) + (hi : Int)) 1 = ((lo : Int) + (hi : Int)) / 2 := by
  simp only [shiftI, cond_false, IntKind.bits]
  rw [Int.fdiv_eq_ediv_of_nonneg _ (by decide)]
  rfl
 rw [e2, wi64_id (by omega) (by omega)]
 omega
theorem auditIn_eq {l : List Int} (hl : l.length ≤ 1000) (hs : l.Pairwise (· < ·)) (x : Int) : audit_in (l, x, ()) = some (decide (x ∈ l), ()) := by
 have hup : ∀ i j : Nat, i < j → j < l.length → l.getD i 0 < l.getD j 0 := by
  intro i j hij hj
  rw [get_d _ _ _ (by omega), get_d _ _ _ hj]
  exact List.pairwise_iff_getElem.1 hs i j (by omega) hj hij
 have key : ∃ r, slices_BinarySearch_l0 (l, x, (l.length : Int), 0, (l.length : Int), ()) = some r ∧ ∃ lo : Nat, lo ≤ l.length ∧ r = .out (l, x, (l.length : Int), (lo : Int), ()) ∧ (∀ j, j < lo → l.getD j 0 < x) ∧ ∀ j, lo ≤ j → j < l.length → x ≤ l.getD j 0 := by
  unfold slices_BinarySearch_l0
  refine iterL_rule (fun n y => ∃ lo hi : Nat, lo ≤ hi ∧ hi ≤ l.length ∧ n = hi - lo ∧ y = (l, x, (l.length : Int), (lo : Int), (hi : Int), ()) ∧ (∀ j, j < lo → l.getD j 0 < x) ∧ ∀ j, hi ≤ j → j < l.length → x ≤ l.getD j 0) ?_ _ l.length _ (by omega) ⟨0, l.length, by omega, by omega, rfl, rfl, fun j hj => by omega, fun j h1 h2 => by omega⟩
  rintro n y ⟨lo, hi, h1, h2, rfl, rfl, hlo, hhi⟩
  simp only [slices_BinarySearch_s0, slices_BinarySearch_s0r, cmp_Less, cmp_Less_r, cmp_isNaN, cmp_isNaN_r, Bool.cond_decide]
  by_cases hlt : lo < hi
  ·have hm : (lo + hi) / 2 < l.length := by omega
   rw [mid_eqX (by omega) (by omega), if_pos (show (lo : Int) < (hi : Int) by omega), if_pos (show (0 : Int) ≤ (((lo + hi) / 2 : Nat) : Int) by omega), if_pos (show (((lo + hi) / 2 : Nat) : Int) < (l.length : Int) by omega), Int.toNat_natCast]
   simp only [Option.bind_some, bne_self_eq_false, cond_false, Bool.cond_decide]
   by_cases c : l.getD ((lo + hi) / 2) 0 < x
   ·rw [if_pos c, wi64_id (by omega) (by omega)]
    refine .inl ⟨hi - ((lo + hi) / 2 + 1), _, by omega, rfl, (lo + hi) / 2 + 1, hi, by omega, h2, rfl, rfl, fun j hj => ?_, hhi⟩
    by_cases e : j = (lo + hi) / 2
    ·rw [e]; exact c
    ·have := hup j ((lo + hi) / 2) (by omega) hm
     omega
   ·rw [if_neg c]
    refine .inl ⟨(lo + hi) / 2 - lo, _, by omega, rfl, lo, (lo + hi) / 2, by omega, by omega, rfl, rfl, hlo, fun j hj1 hj2 => ?_⟩
    by_cases e : j = (lo + hi) / 2
    ·rw [e]; omega
    ·have := hup ((lo + hi) / 2) j (by omega) hj2
     omega
  ·rw [if_neg (show ¬ (lo : Int) < (hi : Int) by omega)]
   exact .inr ⟨_, rfl, lo, by omega, rfl, hlo, fun j hj1 hj2 => hhi j (by omega) hj2⟩
 obtain ⟨r, e, lo, h1, rfl, hlo, hhi⟩ := key
 have hmem : x ∈ l ↔ ∃ j, j < l.length ∧ l.getD j 0 = x := by
  constructor
  ·intro hx
   obtain ⟨j, hj, rfl⟩ := List.mem_iff_getElem.1 hx
   exact ⟨j, hj, get_d _ _ _ hj⟩
  ·rintro ⟨j, hj, rfl⟩
   rw [get_d _ _ _ hj]
   exact List.getElem_mem hj
 simp only [audit_in, audit_in_r, slices_BinarySearch, slices_BinarySearch_r, slices_isNaN, slices_isNaN_r, e, Option.bind_some, Bool.cond_decide, ibeq]
 by_cases hlt : lo < l.length
 ·rw [if_pos (show (lo : Int) < (l.length : Int) by omega), if_pos (show (0 : Int) ≤ (lo : Int) by omega), if_pos (show (lo : Int) < (l.length : Int) by omega), Int.toNat_natCast]
  by_cases c : l.getD lo 0 = x
  ·rw [if_pos c, decide_eq_true (hmem.2 ⟨lo, hlt, c⟩)]
   rfl
  ·rw [if_neg c, if_pos (show (0 : Int) ≤ (lo : Int) by omega), if_pos (show (lo : Int) < (l.length : Int) by omega), decide_eq_false]
   ·simp
   ·intro hx
    obtain ⟨j, hj, hjx⟩ := hmem.1 hx
    by_cases k1 : j < lo
    ·have := hlo j k1; omega
    ·by_cases k2 : j = lo
     ·subst k2; exact c hjx
     ·have := hup lo j (by omega) hj
      have := hhi lo (Nat.le_refl _) hlt
      omega
 ·rw [if_neg (show ¬ (lo : Int) < (l.length : Int) by omega), decide_eq_false]
  ·rfl
  ·intro hx
   obtain ⟨j, hj, hjx⟩ := hmem.1 hx
   have := hlo j (by omega)
   omega
end Go.Proofs.YtkjpakaidjpjgaaGreatDoor.Den
/- Pure laws: which rule is broken, by the program and by the document. -/
namespace Go.Proofs.YtkjpakaidjpjgaaGreatDoor.Den
open Go
set_option linter.unusedVariables false
set_option linter.unusedSimpArgs false
set_option maxRecDepth 100000
theorem scan_ruleI {h o r : U} {step : h.T → Option (SRes h o r)} {n : Nat} {P : Nat → Bool} {lo : o.T} {lr : Nat → r.T} (g : Nat → h.T)
  (hs : ∀ i, i < n → step (g i) = if P i = true then some (.fin (.ret (lr i))) else some (.next (g (i + 1))))
  (he : step (g n) = some (.fin (.out lo))) {fuel : Nat} (hf : n < fuel) {x : h.T} (hx : x = g 0) :
  ((∀ i, i < n → P i = false) ∧ iterL step fuel x = some (.out lo)) ∨ ∃ i, i < n ∧ P i = true ∧ (∀ j, j < i → P j = false) ∧ iterL step fuel x = some (.ret (lr i)) := scan_rule n g P lo lr hs he hf hx
noncomputable def heldO (w : WrldT) : List Int := (lst w.2.1).filter (rchB w.2.1 (heldL w.2.2.1))
noncomputable def toO (w : WrldT) : List Int := (lst w.2.1).filter (rchB w.2.1 (todoL w.2.2.2.1))
theorem heldL_le {w : WrldT} (q : GA w) : (heldL w.2.2.1).length ≤ 220 := by
 have hh := (q.g.ms.take w.2.1 w.2.2.1.length).1
 rw [List.take_of_length_le (Nat.le_refl _)] at hh
 exact hh
theorem auditHeld_eq {w : WrldT} (q : GA w) (f : FormP w.2.1) : audit_held (w, ()) = some (heldO w, ()) := by
 have hh := heldL_le q
 simp only [audit_held, audit_held_r, held_eq q.g.ms, Option.bind_some, from_eq f (show (heldL w.2.2.1).length ≤ 1000000 by omega) q.hv, heldO]
theorem filt_len {h : Heap} (f : FormP h) (p : Int → Bool) : ((lst h).filter p).length ≤ 512 := Nat.le_trans (List.length_filter_le _ _) (lst_len f)
theorem filt_rng {h : Heap} (f : FormP h) (p : Int → Bool) : ∀ a ∈ (lst h).filter p, (-9223372036854775808 : Int) ≤ a ∧ a < 9223372036854775808 := by
 intro a ha
 have := lst_rng f a (List.mem_filter.1 ha).1
 omega
theorem filt_up (h : Heap) (p : Int → Bool) : ((lst h).filter p).Pairwise (· < ·) := List.Pairwise.filter _ (lst_sorted h)
def restB (w : WrldT) : Bool := if w.2.2.2.2.1 = 0 then decide (dcnt w.2.1 = 0) && (lst w.2.1).all (bk w.2.1) else true
theorem auditRest_eq {w : WrldT} (q : GA w) (f : FormP w.2.1) : audit_rest (w, ()) = some (restB w, ()) := by
 have hl := lst_len f
 have hsp := q.g.sp
 simp only [audit_rest, audit_rest_r, dirty_eq (h := w.2.1) (by omega), objList_eq f, auditBlack_eq (w := w) f (l := lst w.2.1) (by omega) (fun a ha => by have := lst_rng f a ha; omega), Option.bind_some, ibne, ibeq, Bool.cond_decide, restB]
 by_cases e : w.2.2.2.2.1 = 0
 ·rw [if_neg (fun hh => hh e), if_pos e]
  by_cases d : dcnt w.2.1 = 0
  ·rw [if_pos (by omega), decide_eq_true d, Bool.true_and]
  ·rw [if_neg (by omega), decide_eq_false d, Bool.false_and]
 ·rw [if_pos e, if_neg e]
noncomputable def marksB (w : WrldT) : Bool := if w.2.2.2.2.1 = 1 then decide (dcnt w.2.1 = 0) && ((w.2.2.2.1.2.2.2.2.2.2.1 || decide (w.2.2.2.1.2.2.2.2.2.1 ≥ 0)) || (heldO w).all fun a => bk w.2.1 a || decide (a ∈ toO w)) else true
theorem auditMarks_eq {w : WrldT} (q : GA w) (f : FormP w.2.1) : audit_marks (w, ()) = some (marksB w, ()) := by
 have hsp := q.g.sp
 have hl : (heldO w).length ≤ 512 := filt_len f _
 have hr := filt_rng f (rchB w.2.1 (heldL w.2.2.1))
 have htl : (toO w).length ≤ 512 := filt_len f _
 have hts : (toO w).Pairwise (· < ·) := filt_up _ _
 have key : ScanR ((heldO w).any fun a => !(bk w.2.1 a || decide (a ∈ toO w))) (heldO w).length (audit_marks_l0 (((heldO w).length : Int), 0, w, toO w, heldO w, ())) () (fun i => ((i : Int), ())) := by
  unfold audit_marks_l0
  refine scan_any (fun i => (((heldO w).length : Int), (i : Int), w, toO w, heldO w, ())) (fun i hi => ?_) ?_ (by omega) rfl
  ·have h1 := hr _ (List.getElem_mem hi)
   simp only [audit_marks_s0, audit_marks_s0r, Bool.cond_decide, Int.toNat_natCast, get_d _ _ _ hi, black_eq f h1.1 h1.2, Option.bind_some, auditIn_eq (show (toO w).length ≤ 1000 by omega) hts]
   rw [if_pos (show (i : Int) < ((heldO w).length : Int) by omega), if_pos (show (0 : Int) ≤ (i : Int) by omega), if_pos (show (i : Int) < ((heldO w).length : Int) by omega), wi64_id (n := (i : Int) + 1) (by omega) (by omega)]
   cases bk w.2.1 (heldO w)[i]
   ·cases decide ((heldO w)[i] ∈ toO w) <;> rfl
   ·rfl
  ·simp only [audit_marks_s0, audit_marks_s0r, Bool.cond_decide]
   rw [if_neg (show ¬ (((heldO w).length : Int) < ((heldO w).length : Int)) by omega)]
 rw [any_not] at key
 have htd : audit_todo (w, ()) = some (toO w, ()) := todo_eq q f
 simp only [audit_marks, audit_marks_r, dirty_eq (h := w.2.1) (by omega), Option.bind_some, htd, auditHeld_eq q f, ibne, ibeq, Bool.cond_decide, marksB]
 by_cases e : w.2.2.2.2.1 = 1
 ·rw [if_neg (fun hh => hh e), if_pos e]
  have hd : decide ((dcnt w.2.1 : Int) = 0) = decide (dcnt w.2.1 = 0) := decide_eq_decide.2 (by omega)
  cases w.2.2.2.1.2.2.2.2.2.2.1
  ·simp only [cond_false, Bool.false_or]
   by_cases c : w.2.2.2.1.2.2.2.2.2.1 ≥ 0
   ·rw [if_pos c, decide_eq_true c, Bool.true_or, Bool.and_true, hd]
   ·rw [if_neg c, decide_eq_false c, Bool.false_or]
    by_cases d : dcnt w.2.1 = 0
    ·rw [if_pos (show (dcnt w.2.1 : Int) = 0 by omega), decide_eq_true d, Bool.true_and]
     rcases key with ⟨e1, e⟩ | ⟨e1, i, hi, e⟩
     ·simp only [Bool.not_eq_false'] at e1
      simp only [e, e1, Option.bind_some]
     ·simp only [Bool.not_eq_true'] at e1
      simp only [e, e1, Option.bind_some, decide_eq_true (show (i : Int) ≥ 0 by omega), Bool.not_true]
    ·rw [if_neg (show ¬ (dcnt w.2.1 : Int) = 0 by omega), decide_eq_false d, Bool.false_and]
  ·simp only [cond_true, Bool.true_or, Bool.and_true, hd]
 ·rw [if_pos e, if_neg e]
def keepB (h : Heap) (a : Int) : Bool := decide ((spanOf h a).1 = 1)
noncomputable def sweepsB (w : WrldT) : Bool := if w.2.2.2.2.1 = 2 then (heldO w).all (bk w.2.1) && ((lst w.2.1).filter (keepB w.2.1)).all (bk w.2.1) else true
theorem sweeps_l1 {w : WrldT} (f : FormP w.2.1) {i : Nat} (hi : i < (lst w.2.1).length) (hp : keepB w.2.1 (lst w.2.1)[i] = false) (hz : ∀ j (hj : j < (lst w.2.1).length), j < i → keepB w.2.1 (lst w.2.1)[j] = true) :
  ∃ (k : Nat) (r : List Int), audit_sweeps_l1 ((i : Int), (i : Int) + 1, w, lst w.2.1, ()) = some (.out ((k : Int), w, r, ())) ∧ k ≤ r.length ∧ r.length = (lst w.2.1).length ∧ r.take k = (lst w.2.1).filter (keepB w.2.1) := by
 have hl := lst_len f
 have hn := f.n16
 obtain ⟨L, hL⟩ : ∃ L, lst w.2.1 = L := ⟨_, rfl⟩
 have hLl : L.length = (lst w.2.1).length := by rw [hL]
 have hrg : ∀ a ∈ L, (0 : Int) ≤ a ∧ a < 32 * (w.2.1.2.1.length : Int) := by
  intro a ha
  have := fndB_rng (og_ok ((mem_lst f).1 (hL ▸ ha))).1
  omega
 have key : ∃ l, audit_sweeps_l1 ((i : Int), (i : Int) + 1, w, L, ()) = some l ∧ ∃ (k : Nat) (r : List Int), l = .out ((k : Int), w, r, ()) ∧ k ≤ r.length ∧ r.length = L.length ∧ r.take k = L.filter (keepB w.2.1) := by
  unfold audit_sweeps_l1
  refine iterL_rule (fun m x => ∃ (j k : Nat) (r : List Int), k < j ∧ j ≤ L.length ∧ m = L.length - j ∧ x = ((k : Int), (j : Int), w, r, ()) ∧ r.length = L.length ∧ r.take k = (L.take j).filter (keepB w.2.1) ∧ r.drop j = L.drop j) ?_ _ (L.length - (i + 1)) _ (by omega) ⟨i + 1, i, L, by omega, by omega, rfl, rfl, rfl, ?_, rfl⟩
  ·rintro m x ⟨j, k, r, hkj, hj, rfl, rfl, hrl, hrt, hrd⟩
   simp only [audit_sweeps_s1, audit_sweeps_s1r, Bool.cond_decide, Int.toNat_natCast, hrl]
   by_cases hlt : j < L.length
   ·have hrj : r[j]'(by omega) = L[j] := by
     have h1 : (r.drop j)[0]? = (L.drop j)[0]? := by rw [hrd]
     rw [List.getElem?_drop, List.getElem?_drop] at h1
     simp only [Nat.add_zero] at h1
     rw [List.getElem?_eq_getElem (by omega), List.getElem?_eq_getElem hlt] at h1
     injection h1
    have hg := hrg _ (List.getElem_mem hlt)
    have hgj : r.getD j 0 = L[j] := by rw [get_d _ _ _ (show j < r.length by omega)]; exact hrj
    have hw : wi64 (L[j].tdiv 32) = L[j] / 32 := by rw [Int.tdiv_eq_ediv_of_nonneg hg.1, wi64_id (n := L[j] / 32) (by omega) (by omega)]
    have hsp : w.2.1.2.1.getD (L[j] / 32).toNat (0, 0, 0, ()) = spanOf w.2.1 L[j] := rfl
    have q1 : (j : Int) < (L.length : Int) := by omega
    have q2 : (0 : Int) ≤ (j : Int) := by omega
    have q3 : (0 : Int) ≤ L[j] / 32 := by omega
    have q4 : L[j] / 32 < (w.2.1.2.1.length : Int) := by omega
    have q5 : wi64 ((j : Int) + 1) = (j : Int) + 1 := wi64_id (by omega) (by omega)
    simp only [hgj, hw, if_pos q1, if_pos q2, if_pos q3, if_pos q4, hsp, q5]
    simp only [ibne, ibeq]
    have htk : L.take (j + 1) = L.take j ++ [L[j]] := (List.take_append_getElem hlt).symm
    have hrd2 : r.drop (j + 1) = L.drop (j + 1) := by
     have : (r.drop j).drop 1 = (L.drop j).drop 1 := by rw [hrd]
     rwa [List.drop_drop, List.drop_drop] at this
    by_cases e : (spanOf w.2.1 L[j]).1 = 1
    ·have hk : keepB w.2.1 L[j] = true := decide_eq_true e
     have hb : (!decide ¬(spanOf w.2.1 L[j]).1 = 1) = true := by simp [e]
     simp only [hb, cond_true]
     rw [if_pos (show (k : Int) < (L.length : Int) by omega), wi64_id (n := (k : Int) + 1) (by omega) (by omega)]
     refine .inl ⟨L.length - (j + 1), _, by omega, rfl, j + 1, k + 1, r.set k L[j], by omega, by omega, rfl, rfl, by rw [List.length_set]; exact hrl, ?_, ?_⟩
     ·rw [htk, List.filter_append, ← hrt, List.filter_cons, hk, if_pos rfl, List.filter_nil]
      rw [← List.take_append_getElem (show k < (r.set k L[j]).length by rw [List.length_set]; omega), List.getElem_set_self, List.take_set_of_le (Nat.le_refl _)]
     ·rw [List.drop_set_of_lt (by omega)]
      exact hrd2
    ·have hk : keepB w.2.1 L[j] = false := decide_eq_false e
     have hb : (!decide ¬(spanOf w.2.1 L[j]).1 = 1) = false := by simp [e]
     simp only [hb, cond_false]
     refine .inl ⟨L.length - (j + 1), _, by omega, rfl, j + 1, k, r, by omega, by omega, rfl, rfl, hrl, ?_, hrd2⟩
     rw [htk, List.filter_append, ← hrt, List.filter_cons, hk, if_neg (by simp), List.filter_nil, List.append_nil]
   ·obtain rfl : j = L.length := by omega
    rw [if_neg (show ¬ ((L.length : Int) < (L.length : Int)) by omega)]
    refine .inr ⟨_, rfl, k, r, rfl, by omega, hrl, ?_⟩
    rw [hrt, List.take_of_length_le (Nat.le_refl _)]
  ·subst hL
   have h1 : (lst w.2.1).take (i + 1) = (lst w.2.1).take i ++ [(lst w.2.1)[i]] := (List.take_append_getElem hi).symm
   rw [h1, List.filter_append, List.filter_cons, hp, if_neg (by simp), List.filter_nil, List.append_nil, List.filter_eq_self.2]
   intro a ha
   obtain ⟨j, hj, rfl⟩ := List.mem_iff_getElem.1 ha
   rw [List.length_take] at hj
   rw [List.getElem_take]
   exact hz j (by omega) (by omega)
 obtain ⟨l, e, k, r, rfl, h1, h2, h3⟩ := key
 rw [hL]
 exact ⟨k, r, e, h1, h2, h3⟩
theorem auditSweeps_eq {w : WrldT} (q : GA w) (f : FormP w.2.1) : audit_sweeps (w, ()) = some (sweepsB w, ()) := by
 have hl := lst_len f
 have hn := f.n16
 have hhl : (heldO w).length ≤ 512 := filt_len f _
 have hfl := filt_len f (keepB w.2.1)
 have b1 := auditBlack_eq (w := w) f (l := heldO w) (by omega) (filt_rng f _)
 have b2 := auditBlack_eq (w := w) f (l := (lst w.2.1).filter (keepB w.2.1)) (by omega) (filt_rng f _)
 have k0 : ((∀ i, i < (lst w.2.1).length → (!keepB w.2.1 ((lst w.2.1).getD i 0)) = false) ∧ audit_sweeps_l0 (((lst w.2.1).length : Int), 0, w, lst w.2.1, ()) = some (.out (w, lst w.2.1, ()))) ∨ ∃ i, i < (lst w.2.1).length ∧ (!keepB w.2.1 ((lst w.2.1).getD i 0)) = true ∧ (∀ j, j < i → (!keepB w.2.1 ((lst w.2.1).getD j 0)) = false) ∧ audit_sweeps_l0 (((lst w.2.1).length : Int), 0, w, lst w.2.1, ()) = some (.ret ((i : Int), w, lst w.2.1, ())) := by
  unfold audit_sweeps_l0
  refine scan_ruleI (P := fun i => !keepB w.2.1 ((lst w.2.1).getD i 0)) (fun i => (((lst w.2.1).length : Int), (i : Int), w, lst w.2.1, ())) (fun i hi => ?_) ?_ (by omega) rfl
  ·have hg := fndB_rng (og_ok ((mem_lst f).1 (List.getElem_mem hi))).1
   simp only [audit_sweeps_s0, audit_sweeps_s0r, Bool.cond_decide, Int.toNat_natCast, get_d _ _ _ hi]
   rw [Int.tdiv_eq_ediv_of_nonneg hg.1, wi64_id (n := (lst w.2.1)[i] / 32) (by omega) (by omega)]
   simp only [show ((0 : Int), (0 : Int), (0 : Int), ()) = sz from rfl]
   have hsp : w.2.1.2.1.getD ((lst w.2.1)[i] / 32).toNat sz = spanOf w.2.1 (lst w.2.1)[i] := rfl
   rw [if_pos (show (i : Int) < ((lst w.2.1).length : Int) by omega), if_pos (show (0 : Int) ≤ (i : Int) by omega), if_pos (show (i : Int) < ((lst w.2.1).length : Int) by omega), if_pos (show (0 : Int) ≤ (lst w.2.1)[i] / 32 by omega), if_pos (show (lst w.2.1)[i] / 32 < (w.2.1.2.1.length : Int) by omega), hsp, wi64_id (n := (i : Int) + 1) (by omega) (by omega)]
   simp only [ibne, Bool.cond_decide]
   by_cases e : (spanOf w.2.1 (lst w.2.1)[i]).1 = 1
   ·have hk : keepB w.2.1 (lst w.2.1)[i] = true := decide_eq_true e
    rw [if_neg (fun hh => hh e), hk]; rfl
   ·have hk : keepB w.2.1 (lst w.2.1)[i] = false := decide_eq_false e
    rw [if_pos e, hk]; rfl
  ·simp only [audit_sweeps_s0, audit_sweeps_s0r, Bool.cond_decide]
   rw [if_neg (show ¬ (((lst w.2.1).length : Int) < ((lst w.2.1).length : Int)) by omega)]
 simp only [audit_sweeps, audit_sweeps_r, objList_eq f, Option.bind_some, ibne, ibeq, Bool.cond_decide, sweepsB]
 by_cases e : w.2.2.2.2.1 = 2
 ·rw [if_neg (fun hh => hh e), if_pos e]
  rcases k0 with ⟨hz, e0⟩ | ⟨i, hi, hp, hz, e0⟩
  ·have hself : (lst w.2.1).filter (keepB w.2.1) = lst w.2.1 := by
    rw [List.filter_eq_self]
    intro a ha
    obtain ⟨j, hj, rfl⟩ := List.mem_iff_getElem.1 ha
    have := hz j hj
    rw [get_d _ _ _ hj] at this
    simpa using this
   rw [hself] at b2 ⊢
   simp only [e0, Option.bind_some, auditHeld_eq q f, b1, b2]
   cases (heldO w).all (bk w.2.1) <;> rfl
  ·rw [get_d _ _ _ hi] at hp
   obtain ⟨k, r, e1, h1, h2, h3⟩ := sweeps_l1 f hi (by simpa using hp) (fun j hj hji => by
    have := hz j hji
    rw [get_d _ _ _ hj] at this
    simpa using this)
   have hi1 : ¬ (i : Int) = -1 := by omega
   simp only [e0, Option.bind_some, if_neg hi1]
   rw [wi64_id (n := (i : Int) + 1) (by omega) (by omega), e1]
   simp only [Option.bind_some, Int.toNat_natCast]
   have hsl : (segSet r k (List.replicate (r.length - k) (0 : Int))).length = r.length := by
    unfold segSet
    simp only [List.length_append, List.length_take, List.length_replicate, List.length_drop]
    omega
   have hst : ((segSet r k (List.replicate (r.length - k) (0 : Int))).drop 0).take (k - 0) = r.take k := by
    unfold segSet
    rw [List.drop_zero, Nat.sub_zero, List.append_assoc, List.take_append_of_le_length (by rw [List.length_take]; omega), List.take_of_length_le (by rw [List.length_take]; omega)]
   rw [hsl, hst, h3]
   rw [if_pos (show (0 : Int) ≤ (k : Int) by omega), if_pos (show (k : Int) ≤ (r.length : Int) by omega), if_pos (show (r.length : Int) ≤ (r.length : Int) by omega), if_pos (show (0 : Int) ≤ (k : Int) by omega), if_pos (show (k : Int) ≤ (r.length : Int) by omega), auditHeld_eq q f]
   simp only [Option.bind_some, b1, b2]
   cases (heldO w).all (bk w.2.1) <;> rfl
 ·rw [if_pos e, if_neg e]
noncomputable def audW (w : WrldT) : Int := if wholeW w = true then if (vrefs (heldL w.2.2.1)).all (okA w.2.1) = true then if restB w = true then if marksB w = true then if sweepsB w = true then 0 else 5 else 4 else 3 else 2 else 1
structure FormW (w : WrldT) : Prop where
 f : FormP w.2.1
 ph : 0 ≤ w.2.2.2.2.1 ∧ w.2.2.2.2.1 ≤ 2
 cu : w.2.2.2.2.1 = 1 → -1 ≤ w.2.2.2.1.2.2.2.2.2.1
theorem formW_of {w : WrldT} (q : GW w) (h : formW w = true) : FormW w := by
 unfold formW at h
 simp only [Bool.and_eq_true, decide_eq_true_eq] at h
 refine ⟨form_of q.gh h.2.1, h.2.2.2.2.1, fun e => ?_⟩
 have h2 := h.2.2.2.2.2.2.2
 unfold mkB at h2
 rw [if_pos e] at h2
 simp only [Bool.and_eq_true, rtB, decide_eq_true_eq] at h2
 exact h2.1.2.2.1.1
theorem whole_form {w : WrldT} (h : wholeW w = true) : formW w = true := by
 unfold wholeW at h
 simp only [Bool.and_eq_true] at h
 exact h.1
theorem auditCheck_eq {w : WrldT} (q : GA w) : audit_Check (w, ()) = some (audW w, ()) := by
 simp only [audit_Check, audit_Check_r, worldWhole_eq q.g, Option.bind_some, audW]
 cases hw : wholeW w
 ·rfl
 have f := (formW_of q.g (whole_form hw)).f
 simp only [Bool.not_true, cond_false, if_true, auditObjects_eq q f, Option.bind_some]
 cases (vrefs (heldL w.2.2.1)).all (okA w.2.1)
 ·rfl
 simp only [Bool.not_true, cond_false, if_true, auditRest_eq q f, Option.bind_some]
 cases restB w
 ·rfl
 simp only [Bool.not_true, cond_false, if_true, auditMarks_eq q f, Option.bind_some]
 cases marksB w
 ·rfl
 simp only [Bool.not_true, cond_false, if_true, auditSweeps_eq q f, Option.bind_some]
 cases sweepsB w <;> rfl
theorem check23_eq {w : WrldT} (q : GA w) : r23_Check (w, ()) = some (audW w, ()) := by
 have hh := heldL_le q
 have hsp := q.g.sp
 simp only [r23_Check, r23_Check_r, whole22_eq q.g, Option.bind_some, audW]
 cases hw : wholeW w
 ·rfl
 have F := formW_of q.g (whole_form hw)
 have f := F.f
 have hl := lst_len f
 have hol : (heldO w).length ≤ 512 := filt_len f _
 have htl : (toO w).length ≤ 512 := filt_len f _
 simp only [Bool.not_true, cond_false, if_true, held18_eq q.g.ms, Option.bind_some]
 have hva : (vrefs (heldL w.2.2.1)).all (okA w.2.1) = (heldL w.2.2.1).all fun v => !(decide (v.1 = 2) && !okA w.2.1 v.2.1) := by
  unfold vrefs
  rw [List.all_map, List.all_filter]
  congr 1
  funext v
  simp only [Function.comp]
  cases decide (v.1 = 2) <;> cases okA w.2.1 v.2.1 <;> rfl
 have k0 : ScanR ((heldL w.2.2.1).any fun v => decide (v.1 = 2) && !okA w.2.1 v.2.1) (heldL w.2.2.1).length (r23_Check_l0 (0, w, heldL w.2.2.1, ())) (w, heldL w.2.2.1, ()) (fun _ => (2, ())) := by
  unfold r23_Check_l0
  refine scan_any (fun i => ((i : Int), w, heldL w.2.2.1, ())) (fun i hi => ?_) ?_ (by omega) rfl
  ·simp only [r23_Check_s0, r23_Check_s0r, Bool.cond_decide, Int.toNat_natCast, ibeq]
   simp only [show ((0 : Int), (0 : Int), ()) = zv from rfl, get_d _ _ zv hi, objGet8_eq f, Option.bind_some]
   have p1 : (i : Int) < ((heldL w.2.2.1).length : Int) := by omega
   have p2 : (0 : Int) ≤ (i : Int) := by omega
   simp only [if_pos p1, if_pos p2]
   rw [wi64_id (n := (i : Int) + 1) (by omega) (by omega)]
   unfold okA
   by_cases e : ((heldL w.2.2.1)[i] : Val).1 = 2
   ·rw [if_pos e]
    simp only [e, decide_true, Bool.true_and]
    cases (og w.2.1 ((heldL w.2.2.1)[i] : Val).2.1).2.1 <;> rfl
   ·rw [if_neg e]
    simp only [e, decide_false, Bool.false_and]
    rfl
  ·simp only [r23_Check_s0, r23_Check_s0r, Bool.cond_decide]
   rw [if_neg (show ¬ (((heldL w.2.2.1).length : Int) < ((heldL w.2.2.1).length : Int)) by omega)]
 have hva2 : ((heldL w.2.2.1).any fun v => decide (v.1 = 2) && !okA w.2.1 v.2.1) = !(vrefs (heldL w.2.2.1)).all (okA w.2.1) := by
  rw [hva, ← any_not]
  congr 1
  funext v
  rw [Bool.not_not]
 rw [hva2] at k0
 have k1 : ScanR ((lst w.2.1).any fun a => !bk w.2.1 a) (lst w.2.1).length (r23_Check_l1 (0, w, lst w.2.1, ())) () (fun _ => (3, ())) := by
  unfold r23_Check_l1
  refine scan_any (fun i => ((i : Int), w, lst w.2.1, ())) (fun i hi => ?_) ?_ (by omega) rfl
  ·simp only [r23_Check_s1, r23_Check_s1r, Bool.cond_decide, Int.toNat_natCast, get_d _ _ _ hi, black8_eq f, Option.bind_some]
   rw [if_pos (show (i : Int) < ((lst w.2.1).length : Int) by omega), if_pos (show (0 : Int) ≤ (i : Int) by omega), if_pos (show (i : Int) < ((lst w.2.1).length : Int) by omega), wi64_id (n := (i : Int) + 1) (by omega) (by omega)]
   cases bk w.2.1 (lst w.2.1)[i] <;> rfl
  ·simp only [r23_Check_s1, r23_Check_s1r, Bool.cond_decide]
   rw [if_neg (show ¬ (((lst w.2.1).length : Int) < ((lst w.2.1).length : Int)) by omega)]
 rw [any_not] at k1
 have k2 : ScanR ((heldO w).any fun a => !(bk w.2.1 a || decide (a ∈ toO w))) (heldO w).length (r23_Check_l2 (0, w, heldO w, toO w, ())) () (fun _ => (4, ())) := by
  unfold r23_Check_l2
  refine scan_any (fun i => ((i : Int), w, heldO w, toO w, ())) (fun i hi => ?_) ?_ (by omega) rfl
  ·simp only [r23_Check_s2, r23_Check_s2r, Bool.cond_decide, Int.toNat_natCast, get_d _ _ _ hi, black8_eq f, in8_eq _ _ (show (toO w).length < 9223372036854775807 by omega), Option.bind_some]
   have p1 : (i : Int) < ((heldO w).length : Int) := by omega
   have p2 : (0 : Int) ≤ (i : Int) := by omega
   simp only [if_pos p1, if_pos p2]
   rw [wi64_id (n := (i : Int) + 1) (by omega) (by omega)]
   cases bk w.2.1 (heldO w)[i]
   ·cases decide ((heldO w)[i] ∈ toO w) <;> rfl
   ·rfl
  ·simp only [r23_Check_s2, r23_Check_s2r, Bool.cond_decide]
   rw [if_neg (show ¬ (((heldO w).length : Int) < ((heldO w).length : Int)) by omega)]
 rw [any_not] at k2
 have k3 : ScanR ((lst w.2.1).any fun a => !(!(decide (a ∈ heldO w) || keepB w.2.1 a) || bk w.2.1 a)) (lst w.2.1).length (r23_Check_l3 (0, w, lst w.2.1, heldO w, ())) () (fun _ => (5, ())) := by
  unfold r23_Check_l3
  refine scan_any (fun i => ((i : Int), w, lst w.2.1, heldO w, ())) (fun i hi => ?_) ?_ (by omega) rfl
  ·have hg := fndB_rng (og_ok ((mem_lst f).1 (List.getElem_mem hi))).1
   simp only [r23_Check_s3, r23_Check_s3r, Bool.cond_decide, Int.toNat_natCast, get_d _ _ _ hi, black8_eq f, in8_eq _ _ (show (heldO w).length < 9223372036854775807 by omega), Option.bind_some, ibeq]
   rw [Int.tdiv_eq_ediv_of_nonneg hg.1, wi64_id (n := (lst w.2.1)[i] / 32) (by omega) (by omega)]
   simp only [show ((0 : Int), (0 : Int), (0 : Int), ()) = sz from rfl]
   have hsp : w.2.1.2.1.getD ((lst w.2.1)[i] / 32).toNat sz = spanOf w.2.1 (lst w.2.1)[i] := rfl
   have p1 : (i : Int) < ((lst w.2.1).length : Int) := by omega
   have p2 : (0 : Int) ≤ (i : Int) := by omega
   have p3 : (0 : Int) ≤ (lst w.2.1)[i] / 32 := by have := f.len; omega
   have p4 : (lst w.2.1)[i] / 32 < (w.2.1.2.1.length : Int) := by omega
   simp only [if_pos p1, if_pos p2, if_pos p3, if_pos p4, hsp]
   rw [wi64_id (n := (i : Int) + 1) (by omega) (by omega)]
   unfold keepB
   by_cases m : (lst w.2.1)[i] ∈ heldO w
   ·rw [if_pos m]
    simp only [m, decide_true, Bool.true_or, Bool.not_true, Bool.false_or]
    cases bk w.2.1 (lst w.2.1)[i] <;> rfl
   ·rw [if_neg m]
    simp only [m, decide_false, Bool.false_or]
    by_cases e : (spanOf w.2.1 (lst w.2.1)[i]).1 = 1
    ·rw [if_pos e]
     simp only [e, decide_true, Bool.not_true, Bool.false_or]
     cases bk w.2.1 (lst w.2.1)[i] <;> rfl
    ·rw [if_neg e]
     simp only [e, decide_false, Bool.not_false, Bool.true_or]
     rfl
  ·simp only [r23_Check_s3, r23_Check_s3r, Bool.cond_decide]
   rw [if_neg (show ¬ (((lst w.2.1).length : Int) < ((lst w.2.1).length : Int)) by omega)]
 rw [any_not] at k3
 have h3 : ((lst w.2.1).all fun a => !(decide (a ∈ heldO w) || keepB w.2.1 a) || bk w.2.1 a) = ((heldO w).all (bk w.2.1) && ((lst w.2.1).filter (keepB w.2.1)).all (bk w.2.1)) := by
  rw [Bool.eq_iff_iff, Bool.and_eq_true, List.all_eq_true, List.all_eq_true, List.all_eq_true]
  constructor
  ·intro h
   refine ⟨fun a ha => ?_, fun a ha => ?_⟩
   ·have := h a (List.mem_filter.1 ha).1
    rw [decide_eq_true ha] at this
    simpa using this
   ·have hq := List.mem_filter.1 ha
    have := h a hq.1
    rw [hq.2] at this
    simpa using this
  ·rintro ⟨h1, h2⟩ a ha
   by_cases m : a ∈ heldO w
   ·rw [h1 a m, Bool.or_true]
   ·cases e : keepB w.2.1 a with
    | true => rw [h2 a (List.mem_filter.2 ⟨ha, e⟩), Bool.or_true]
    | false => rw [decide_eq_false m]; rfl
 rw [h3] at k3
 have hfr : r15_From (w.2.1, heldL w.2.2.1, ()) = some (heldO w, ()) := from15_eq f (by omega)
 have htd : r15_From (w.2.1, todoL w.2.2.2.1, ()) = some (toO w, ()) := from15_eq f (by have := todoL_len q; omega)
 rcases k0 with ⟨e1, e0⟩ | ⟨e1, i, hi, e0⟩
 ·simp only [Bool.not_eq_false'] at e1
  simp only [e0, e1, Option.bind_some, if_true, list_eq f, hfr, dirty12_eq (h := w.2.1) (by omega), ibeq, Bool.cond_decide]
  unfold restB marksB sweepsB
  have hph := F.ph
  by_cases c0 : w.2.2.2.2.1 = 0
  ·simp only [c0, if_true]
   by_cases d : dcnt w.2.1 = 0
   ·rw [if_neg (show ¬ ((dcnt w.2.1 : Int) > 0) by omega), decide_eq_true d, Bool.true_and]
    rcases k1 with ⟨e2, e3⟩ | ⟨e2, i, hi, e3⟩
    ·simp only [Bool.not_eq_false'] at e2
     rw [e3, e2]
     rfl
    ·simp only [Bool.not_eq_true'] at e2
     rw [e3, e2]
     rfl
   ·rw [if_pos (show ((dcnt w.2.1 : Int) > 0) by omega), decide_eq_false d]
    rfl
  ·rw [if_neg c0, if_neg c0]
   simp only [if_true]
   by_cases c1 : w.2.2.2.2.1 = 1
   ·have hcu := F.cu c1
    rw [if_pos c1, if_pos c1, if_neg (show ¬ w.2.2.2.2.1 = 2 by omega)]
    by_cases d : dcnt w.2.1 = 0
    ·rw [if_neg (show ¬ ((dcnt w.2.1 : Int) > 0) by omega), decide_eq_true d, Bool.true_and]
     cases w.2.2.2.1.2.2.2.2.2.2.1
     ·simp only [cond_false, Bool.false_or, ibne, Bool.cond_decide]
      by_cases c : w.2.2.2.1.2.2.2.2.2.1 = -1
      ·rw [if_neg (fun hh => hh c), decide_eq_false (show ¬ w.2.2.2.1.2.2.2.2.2.1 ≥ 0 by omega), Bool.false_or, todo23_eq q]
       simp only [Option.bind_some, htd]
       rcases k2 with ⟨e2, e3⟩ | ⟨e2, i, hi, e3⟩
       ·simp only [Bool.not_eq_false'] at e2
        rw [e3, e2]
        rfl
       ·simp only [Bool.not_eq_true'] at e2
        rw [e3, e2]
        rfl
      ·rw [if_pos c, decide_eq_true (show w.2.2.2.1.2.2.2.2.2.1 ≥ 0 by omega)]
       rfl
     ·rfl
    ·rw [if_pos (show ((dcnt w.2.1 : Int) > 0) by omega), decide_eq_false d]
     rfl
   ·rw [if_neg c1, if_neg c1, if_pos (show w.2.2.2.2.1 = 2 by omega)]
    simp only [if_true]
    rcases k3 with ⟨e2, e3⟩ | ⟨e2, i, hi, e3⟩
    ·simp only [Bool.not_eq_false'] at e2
     rw [e3, e2]
     rfl
    ·simp only [Bool.not_eq_true'] at e2
     rw [e3, e2]
     rfl
 ·simp only [Bool.not_eq_true'] at e1
  simp only [e0, e1, Option.bind_some]
  rfl
end Go.Proofs.YtkjpakaidjpjgaaGreatDoor.Den
/- Pure laws: worlds that are few, whose numbers are good. -/
namespace Go.Proofs.YtkjpakaidjpjgaaGreatDoor.Den
open Go
set_option linter.unusedVariables false
set_option linter.unusedSimpArgs false
set_option maxRecDepth 100000
theorem good_val {v : Val} (g : Good cVal v) : -9223372036854775808 ≤ v.2.1 ∧ v.2.1 < 9223372036854775808 := by
 have h : (-9223372036854775808 : Int) ≤ v.2.1 ∧ v.2.1 ≤ 9223372036854775807 := g.2.1
 omega
theorem good_int {n : Int} (g : Good cI n) : -9223372036854775808 ≤ n ∧ n < 9223372036854775808 := by
 have h : (-9223372036854775808 : Int) ≤ n ∧ n ≤ 9223372036854775807 := g
 omega
theorem heldL_val {ms : List MutT} (g : Good (.sl cMut) ms) {v : Val} (hv : v ∈ heldL ms) : -9223372036854775808 ≤ v.2.1 ∧ v.2.1 < 9223372036854775808 := by
 unfold heldL at hv
 obtain ⟨m, hm, hv⟩ := List.mem_flatMap.1 hv
 have gm := g.2 m hm
 unfold held1 at hv
 rcases List.mem_append.1 hv with hv | hv
 ·exact good_val (gm.1.2 v hv)
 ·have ho : (-9223372036854775808 : Int) ≤ m.2.2.2.1 ∧ m.2.2.2.1 < 9223372036854775808 := good_int gm.2.2.2.1
  have hw : (-9223372036854775808 : Int) ≤ (m.2.2.2.2.1 : Val).2.1 ∧ (m.2.2.2.2.1 : Val).2.1 < 9223372036854775808 := good_val gm.2.2.2.2.1
  unfold regs at hv
  split at hv
  ·simp at hv; subst hv; exact ho
  ·split at hv
   ·simp at hv; subst hv; exact hw
   ·split at hv
    ·simp at hv
     rcases hv with rfl | rfl
     ·exact ho
     ·exact hw
    ·simp at hv
theorem itV_val {g : Grey} (h : Good cGrey g) {v : Val} (hv : v ∈ itV g) : -9223372036854775808 ≤ v.2.1 ∧ v.2.1 < 9223372036854775808 := by
 unfold itV at hv
 obtain ⟨a, ha, rfl⟩ := List.mem_map.1 hv
 exact good_int (h.2.1.2 a ha)
theorem todoL_val {m : MarkT} (g : Good cMarker m) {v : Val} (hv : v ∈ todoL m) : -9223372036854775808 ≤ v.2.1 ∧ v.2.1 < 9223372036854775808 := by
 unfold todoL at hv
 rcases List.mem_append.1 hv with hv | hv
 ·rcases List.mem_append.1 hv with hv | hv
  ·exact good_val (g.2.2.1.2 v hv)
  ·rcases List.mem_append.1 hv with hv | hv
   ·obtain ⟨x, hx, hv⟩ := List.mem_flatMap.1 hv
    exact itV_val (g.2.1.2 x hx) hv
   ·exact itV_val g.1 hv
 ·simp at hv
  subst hv
  exact good_int g.2.2.2.1
theorem few20_eq {w : WrldT} (gw : Good cWrld w) : ∃ b, r20_Few (w, ()) = some (b, ()) ∧ (b = true → GA w ∧ w.2.1.1.length ≤ 160 ∧ w.2.2.2.2.2.2.2.1.length ≤ 50) := by
 obtain ⟨b1, e1, h1⟩ := few18S_eq w.2.2.1
 obtain ⟨b2, e2, h2⟩ := few_eq w.2.2.2.1
 have gh : Good cHeap w.2.1 := gw.2.1
 have gm : Good (.sl cMut) w.2.2.1 := gw.2.2.1
 have gk : Good cMarker w.2.2.2.1 := gw.2.2.2.1
 simp only [r20_Few, r20_Few_r, e1, e2, Option.bind_some, Bool.cond_decide]
 by_cases c1 : (w.2.1.1.length : Int) ≤ 160
 ·rw [if_pos c1]
  by_cases c2 : (w.2.1.2.1.length : Int) ≤ 10
  ·rw [if_pos c2]
   cases b1 with
   | false => exact ⟨false, rfl, fun h => by cases h⟩
   | true =>
    cases b2 with
    | false => exact ⟨false, rfl, fun h => by cases h⟩
    | true =>
     refine ⟨_, rfl, fun h => ?_⟩
     have h3 := of_decide_eq_true h
     obtain ⟨a1, a2⟩ := h1 rfl
     obtain ⟨d1, d2, d3, d4⟩ := h2 rfl
     have ho := good_int gk.2.2.2.1
     refine ⟨⟨⟨gh, by omega, ⟨a1, a2, fun m hm => good_int (gm.2 m hm).2.2.2.1⟩, ⟨by omega, by omega, fun g hg => by have := d4 g hg; omega, ho⟩⟩, fun v hv => heldL_val gm hv, fun v hv => todoL_val gk hv, by omega, d1, d2, d4⟩, by omega, by omega⟩
  ·rw [if_neg c2]
   exact ⟨false, rfl, fun h => by cases h⟩
 ·rw [if_neg c1]
  exact ⟨false, rfl, fun h => by cases h⟩
end Go.Proofs.YtkjpakaidjpjgaaGreatDoor.Den
