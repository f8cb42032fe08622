/- Pure laws. -/
import Derived.Test.YtbkjmefhenpmlaaGreatDoorDenP2
import Derived.Test.YtbkjmefhenpmlaaGreatDoorDenP1
import Derived.Test.YtbkjmefhenpmlaaGreatDoorDenFz
/- Pure laws: is a heap sound, by the document; is a world whole. -/
namespace Go.Proofs.YtbkjmefhenpmlaaGreatDoor.Den
open Go
set_option linter.unusedVariables false
set_option linter.unusedSimpArgs false
set_option maxRecDepth 100000
theorem allr_succ (P : Nat → Bool) (n : Nat) : (List.range (n + 1)).all P = ((List.range n).all P && P n) := by
 rw [List.range_succ, List.all_append]; simp
theorem allr_false {P : Nat → Bool} {n i : Nat} (hi : i < n) (h : P i = false) : ¬ (List.range n).all P = true := by
 intro ha
 rw [List.all_eq_true.1 ha i (List.mem_range.2 hi)] at h
 cases h
theorem pgB_use {h : Heap} {P : Nat → Nat → Bool} {p : Nat} (hs : stP h p ≠ 0) : pgB h P p = (List.range (pgN h p)).all (P p) := by
 unfold pgB
 congr 1
 funext i
 rw [decide_eq_false hs, Bool.false_or]
theorem pgB_free {h : Heap} {P : Nat → Nat → Bool} {p : Nat} (hs : stP h p = 0) : pgB h P p = true := pgB_all.2 (fun h => absurd hs h)
theorem check_l0 {h : Heap} (q : HP h) {p : Nat} (hp : p < h.2.1.length) (hs : stP h p ≠ 0) (bad : Int) :
  r09_Check_l0 (bad, (p : Int), cw (h.2.1.getD p sz).2.1, 0, h, h.2.1.getD p sz, ()) = some (if pgB h (filB h) p = true then .out (if pgB h (behB h) p = true then bad else 3, (p : Int), h, ()) else .ret (2, ())) := by
 have f := q.f
 have hn := f.n16
 have hl := f.len
 obtain ⟨w, b, hw, hb, ec, b16, hB⟩ := blk_of f hp
 obtain ⟨f0, f1⟩ := pg_free q hp
 have ew : cw (h.2.1.getD p sz).2.1 = (w : Int) := by
  by_cases e : 0 < b
  ·exact (hB 0 e).cw_
  ·obtain ⟨w', b', e1, e2, e3, _⟩ := pg_class f hp
   unfold pgN at hb; rw [e2] at hb; omega
 rw [pgB_use hs, pgB_use hs, hb, ew]
 have key : ∃ l, r09_Check_l0 (bad, (p : Int), (w : Int), 0, h, h.2.1.getD p sz, ()) = some l ∧ l = (if (List.range b).all (filB h p) = true then .out (if (List.range b).all (behB h p) = true then bad else 3, (p : Int), h, ()) else .ret (2, ())) := by
  unfold r09_Check_l0
  refine iterL_rule (fun m x => ∃ i : Nat, i ≤ b ∧ m = b - i ∧ x = (if (List.range i).all (behB h p) = true then bad else 3, (p : Int), (w : Int), (i : Int), h, h.2.1.getD p sz, ()) ∧ (List.range i).all (filB h p) = true) ?_ _ b _ (by omega) ⟨0, by omega, rfl, rfl, rfl⟩
  rintro m x ⟨i, i1, rfl, rfl, hz⟩
  simp only [r09_Check_s0, r09_Check_s0r, Bool.cond_decide, blocks4_eq, Option.bind_some, ec, ibne]
  by_cases hi : i < b
  ·have B := hB i hi
   have hwb := B.wb
   have hin := B.in_
   have hB2 := B.two
   have ea : ((32 * p + i * w : Nat) : Int) = (blA h p i : Int) := by rw [B.a_]
   have eb : blA h p i + w ≤ h.1.length := by rw [B.a_]; omega
   rw [if_pos (show (i : Int) < (b : Int) by omega), has_eq f0 f1, Option.bind_some, decide_eq_true (p := (0 : Int) ≤ (i : Int) ∧ (i : Int) ≤ 31) (by omega), Bool.true_and, Int.toNat_natCast, at_ref (by omega) (by omega), ea]
   rw [wi64_id (n := (i : Int) + 1) (by omega) (by omega), nought_eq eb (by omega), objGet8_eq f]
   simp only [Option.bind_some]
   have hfr : bit (h.2.1.getD p sz).2.2.1 i = freB h p i := rfl
   rw [hfr]
   cases e : freB h p i with
   | true =>
    have hbe : behB h p i = true := by unfold behB; rw [e]; rfl
    simp only [cond_true]
    cases e2 : clrB h (blA h p i) w with
    | false =>
     have hfi : filB h p i = false := by unfold filB; rw [if_pos e, B.w_]; exact e2
     exact .inr ⟨_, rfl, by rw [if_neg (allr_false hi hfi)]⟩
    | true =>
     have hfi : filB h p i = true := by unfold filB; rw [if_pos e, B.w_]; exact e2
     exact .inl ⟨b - (i + 1), _, by omega, rfl, i + 1, by omega, rfl, by rw [allr_succ, hbe, Bool.and_true]; rfl, by rw [allr_succ, hz, hfi]; rfl⟩
   | false =>
    have hne : ¬ freB h p i = true := by rw [e]; simp
    simp only [cond_false]
    cases e2 : (og h (blA h p i)).2.1 with
    | false =>
     have hfi : filB h p i = false := by unfold filB okA; rw [if_neg hne, e2]; rfl
     exact .inr ⟨_, rfl, by rw [if_neg (allr_false hi hfi)]⟩
    | true =>
     simp only [Bool.not_true, cond_false]
     by_cases e3 : (og h (blA h p i)).1.2.2.1 = (h.2.1.getD p sz).2.1
     ·have hfi : filB h p i = true := by unfold filB okA; rw [if_neg hne, e2, decide_eq_true e3]; rfl
      have hc := ok_cnt f (a := (blA h p i : Int)) e2
      rw [e3, ew] at hc
      obtain ⟨c, hcc⟩ : ∃ c : Nat, cnt h (blA h p i) = c := ⟨_, (Int.toNat_of_nonneg hc.1).symm⟩
      have hcc2 : (og h (blA h p i)).1.2.2.2.1 = (c : Int) := hcc
      rw [hcc] at hc
      rw [if_neg (fun hh => hh e3)]
      simp only [hcc2]
      rw [wi64_id (n := (blA h p i : Int) + 1) (by omega) (by omega), wi64_id (n := (blA h p i : Int) + 1 + (c : Int)) (by omega) (by omega), wi64_id (n := (w : Int) - 1) (by omega) (by omega), wi64_id (n := (w : Int) - 1 - (c : Int)) (by omega) (by omega)]
      have en := nought_eq (h := h) (a := blA h p i + 1 + c) (n := w - 1 - c) (by omega) (by omega)
      rw [show ((blA h p i + 1 + c : Nat) : Int) = (blA h p i : Int) + 1 + (c : Int) by omega, show ((w - 1 - c : Nat) : Int) = (w : Int) - 1 - (c : Int) by omega] at en
      rw [en, Option.bind_some]
      have hbe : behB h p i = clrB h (blA h p i + 1 + c) (w - 1 - c) := by unfold behB; rw [e, hcc, B.w_, Int.toNat_natCast, Bool.false_or]
      cases e4 : clrB h (blA h p i + 1 + c) (w - 1 - c) with
      | true =>
       exact .inl ⟨b - (i + 1), _, by omega, rfl, i + 1, by omega, rfl, by rw [allr_succ, hbe, e4, Bool.and_true]; rfl, by rw [allr_succ, hz, hfi]; rfl⟩
      | false =>
       exact .inl ⟨b - (i + 1), _, by omega, rfl, i + 1, by omega, rfl, by rw [allr_succ, hbe, e4, Bool.and_false]; rfl, by rw [allr_succ, hz, hfi]; rfl⟩
     ·have hfi : filB h p i = false := by unfold filB okA; rw [if_neg hne, e2, decide_eq_false e3]; rfl
      rw [if_pos e3]
      exact .inr ⟨_, rfl, by rw [if_neg (allr_false hi hfi)]⟩
  ·obtain rfl : i = b := by omega
   rw [if_neg (show ¬ ((i : Int) < (i : Int)) by omega)]
   exact .inr ⟨_, rfl, by rw [if_pos hz]⟩
 obtain ⟨l, e, rfl⟩ := key
 exact e
def fulB (h : Heap) (p : Nat) : Bool := (!decide (stP h p = 0) || clrB h (32 * p) 32) && pgB h (filB h) p
theorem allr_and (P Q : Nat → Bool) : ∀ n, (List.range n).all (fun i => P i && Q i) = ((List.range n).all P && (List.range n).all Q)
 | 0 => rfl
 | n + 1 => by
  rw [allr_succ, allr_succ, allr_succ, allr_and P Q n]
  cases (List.range n).all P <;> cases (List.range n).all Q <;> cases P n <;> cases Q n <;> rfl
theorem filled_ful (h : Heap) : filledB h = (List.range h.2.1.length).all (fulB h) := by
 unfold filledB frsB pgsB fulB
 rw [allr_and]
theorem check_l1 {h : Heap} (q : HP h) : r09_Check_l1 (0, 0, h, ()) = some (if filledB h = true then .out (if behindB h = true then 0 else 3, h, ()) else .ret (2, ())) := by
 have f := q.f
 have hn := f.n16
 have hl := f.len
 rw [filled_ful]
 unfold behindB pgsB
 have key : ∃ l, r09_Check_l1 (0, 0, h, ()) = some l ∧ l = (if (List.range h.2.1.length).all (fulB h) = true then .out (if (List.range h.2.1.length).all (pgB h (behB h)) = true then 0 else 3, h, ()) else .ret (2, ())) := by
  unfold r09_Check_l1
  refine iterL_rule (fun m x => ∃ p : Nat, p ≤ h.2.1.length ∧ m = h.2.1.length - p ∧ x = (if (List.range p).all (pgB h (behB h)) = true then 0 else 3, (p : Int), h, ()) ∧ (List.range p).all (fulB h) = true) ?_ _ h.2.1.length _ (by omega) ⟨0, by omega, rfl, rfl, rfl⟩
  rintro m x ⟨p, p1, rfl, rfl, hz⟩
  simp only [r09_Check_s1, r09_Check_s1r, Bool.cond_decide, words4_eq, Option.bind_some, ibeq, Int.toNat_natCast]
  simp only [show ((0 : Int), (0 : Int), (0 : Int), ()) = sz from rfl]
  by_cases hp : p < h.2.1.length
  ·rw [if_pos (show (p : Int) < (h.2.1.length : Int) by omega), if_pos (show (0 : Int) ≤ (p : Int) by omega), if_pos (show (p : Int) < (h.2.1.length : Int) by omega)]
   by_cases hs : (h.2.1.getD p sz).1 = 0
   ·have hs' : stP h p = 0 := hs
    have e := nought_eq (h := h) (a := 32 * p) (n := 32) (by omega) (by omega)
    rw [show ((32 * p : Nat) : Int) = 32 * (p : Int) by omega, show ((32 : Nat) : Int) = (32 : Int) from rfl] at e
    rw [if_pos hs, wi64_id (n := 32 * (p : Int)) (by omega) (by omega), wi64_id (n := (p : Int) + 1) (by omega) (by omega), e, Option.bind_some]
    cases e2 : clrB h (32 * p) 32 with
    | false =>
     have hfi : fulB h p = false := by unfold fulB; rw [e2, decide_eq_true hs']; rfl
     exact .inr ⟨_, rfl, by rw [if_neg (allr_false hp hfi)]⟩
    | true =>
     have hfi : fulB h p = true := by unfold fulB; rw [e2, pgB_free hs']; simp
     have hbe : pgB h (behB h) p = true := pgB_free hs'
     exact .inl ⟨h.2.1.length - (p + 1), _, by omega, rfl, p + 1, by omega, rfl, by rw [allr_succ, hbe, Bool.and_true]; rfl, by rw [allr_succ, hz, hfi]; rfl⟩
   ·have hs' : stP h p ≠ 0 := hs
    rw [if_neg hs, check_l0 q hp hs', Option.bind_some]
    have hfi : fulB h p = pgB h (filB h) p := by unfold fulB; rw [decide_eq_false hs']; simp
    cases e2 : pgB h (filB h) p with
    | false => exact .inr ⟨_, rfl, by rw [if_neg (allr_false hp (hfi.trans e2))]⟩
    | true =>
     simp only [if_true]
     rw [wi64_id (n := (p : Int) + 1) (by omega) (by omega)]
     refine .inl ⟨h.2.1.length - (p + 1), _, by omega, rfl, p + 1, by omega, rfl, ?_, by rw [allr_succ, hz, hfi, e2]; rfl⟩
     rw [allr_succ]
     cases pgB h (behB h) p
     ·rw [Bool.and_false]; rfl
     ·rw [Bool.and_true]; rfl
  ·obtain rfl : p = h.2.1.length := by omega
   rw [if_neg (show ¬ ((h.2.1.length : Int) < (h.2.1.length : Int)) by omega)]
   exact .inr ⟨_, rfl, by rw [if_pos hz]⟩
 obtain ⟨l, e, rfl⟩ := key
 exact e
def rfdB (h : Heap) (a : Int) : Bool := !(decide ((spanOf h a).1 = 1) || bk h a) || (refsO h a).all (okA h)
theorem fnd_blkX {h : Heap} (f : FormP h) {a : Int} (hf : fndB h a = true) : ∃ p i : Nat, p < h.2.1.length ∧ stP h p ≠ 0 ∧ i < pgN h p ∧ (blA h p i : Int) = a ∧ spanOf h a = h.2.1.getD p sz := by
 have hr := fndB_rng hf
 obtain ⟨n, rfl⟩ : ∃ n : Nat, a = n := ⟨a.toNat, by omega⟩
 have hb := of_decide_eq_true hf
 have hp : n / 32 < h.2.1.length := by omega
 have hsp : spanOf h (n : Int) = h.2.1.getD (n / 32) sz := by unfold spanOf; congr 1
 rw [hsp] at hb
 obtain ⟨w, b, hw, hbb, ec, b16, hB⟩ := blk_of f hp
 obtain ⟨w', b', e1, e2, e3, e4⟩ := pg_class f hp
 have hww : w' = w := by unfold pgW at hw; rw [e1] at hw; omega
 have hbb' : b' = b := by rw [e2] at ec; omega
 subst hww hbb'
 have hm := hb.2.2.2
 rw [e1] at hm
 have hm' : n % w' = 0 := by omega
 have hi : n % 32 / w' < b' := by
  rcases e3 with ⟨rfl, rfl⟩ | ⟨rfl, rfl⟩ | ⟨rfl, rfl⟩ | ⟨rfl, rfl⟩ <;> omega
 refine ⟨n / 32, n % 32 / w', hp, hb.2.2.1, by omega, ?_, hsp⟩
 rw [(hB _ hi).a_]
 have : n % 32 / w' * w' = n % 32 := by
  rcases e3 with ⟨rfl, rfl⟩ | ⟨rfl, rfl⟩ | ⟨rfl, rfl⟩ | ⟨rfl, rfl⟩ <;> omega
 rw [this]
 omega
theorem blk_fndX {h : Heap} (f : FormP h) {p i : Nat} (hp : p < h.2.1.length) (hs : stP h p ≠ 0) (hi : i < pgN h p) : fndB h (blA h p i) = true ∧ spanOf h (blA h p i) = h.2.1.getD p sz := by
 obtain ⟨w, b, hw, hb, ec, b16, hB⟩ := blk_of f hp
 have B := hB i (by omega)
 have hin := B.in_
 have h2 := B.two
 have hsp : spanOf h (blA h p i) = h.2.1.getD p sz := by
  unfold spanOf
  rw [B.a_, show (((32 * p + i * w : Nat) : Int) / 32).toNat = p by omega]
 refine ⟨?_, hsp⟩
 unfold fndB
 rw [hsp, B.cw_, B.a_]
 refine decide_eq_true ⟨by omega, by omega, hs, ?_⟩
 have hm := B.md
 rcases B.wb with ⟨e, _⟩ | ⟨e, _⟩ | ⟨e, _⟩ | ⟨e, _⟩ <;> subst e <;> omega
theorem refer_lst {h : Heap} (f : FormP h) : referB h = (lst h).all (rfdB h) := by
 rw [Bool.eq_iff_iff]
 constructor
 ·intro hr
  rw [List.all_eq_true]
  intro a ha
  have ho := (mem_lst f).1 ha
  obtain ⟨p, i, hp, hs, hi, rfl, hsp⟩ := fnd_blkX f (okA_find ho)
  have := pgB_all.1 (List.all_eq_true.1 hr p (List.mem_range.2 hp)) hs i hi
  unfold rfdB
  rw [hsp]
  exact this
 ·intro hr
  unfold referB pgsB
  rw [List.all_eq_true]
  intro p hp
  have hp := List.mem_range.1 hp
  refine pgB_all.2 fun hs i hi => ?_
  obtain ⟨_, hsp⟩ := blk_fndX f hp hs hi
  cases ho : okA h (blA h p i) with
  | true =>
   have := List.all_eq_true.1 hr _ ((mem_lst f).2 ho)
   unfold rfdB at this
   rw [hsp] at this
   exact this
  | false =>
   unfold refB
   rw [refs_no ho]
   simp
theorem check_l2 {h : Heap} (f : FormP h) (i : Int) {l : List Int} (hl : l.length ≤ 100) : r09_Check_l2 (i, 0, h, lst h, l, ()) = some (if l.all (okA h) = true then .out (i, h, lst h, ()) else .ret (4, ())) := by
 have hll := lst_len f
 have key : ScanR (l.any fun a => !okA h a) l.length (r09_Check_l2 (i, 0, h, lst h, l, ())) (i, h, lst h, ()) (fun _ => (4, ())) := by
  unfold r09_Check_l2
  refine scan_any (fun k => (i, (k : Int), h, lst h, l, ())) (fun k hk => ?_) ?_ (by omega) rfl
  ·simp only [r09_Check_s2, r09_Check_s2r, Bool.cond_decide, Int.toNat_natCast, get_d _ _ _ hk, in8_eq _ _ (show (lst h).length < 9223372036854775807 by omega), Option.bind_some]
   rw [if_pos (by omega), if_pos (by omega), if_pos (by omega), wi64_id (n := (k : Int) + 1) (by omega) (by omega)]
   by_cases e : okA h l[k] = true
   ·rw [decide_eq_true ((mem_lst f).2 e), e]; rfl
   ·rw [decide_eq_false (fun hh => e ((mem_lst f).1 hh))]
    simp only [Bool.not_eq_true] at e
    rw [e]; rfl
  ·simp only [r09_Check_s2, r09_Check_s2r, Bool.cond_decide]
   rw [if_neg (by omega)]
 rw [any_not] at key
 rcases key with ⟨e1, e⟩ | ⟨e1, k, hk, e⟩
 ·simp only [Bool.not_eq_false'] at e1
  rw [e, if_pos e1]
 ·simp only [Bool.not_eq_true'] at e1
  rw [e, if_neg (by rw [e1]; simp)]
theorem check_l3 {h : Heap} (f : FormP h) : ScanR (!(lst h).all (rfdB h)) (lst h).length (r09_Check_l3 (0, h, lst h, ())) () (fun _ => (4, ())) := by
 have hn := f.n16
 have hl := f.len
 have hll := lst_len f
 rw [← any_not]
 unfold r09_Check_l3
 refine scan_any (fun k => ((k : Int), h, lst h, ())) (fun k hk => ?_) ?_ (by omega) rfl
 ·have ho := (mem_lst f).1 (List.getElem_mem hk)
  have hr := fndB_rng (og_ok ho).1
  simp only [r09_Check_s3, r09_Check_s3r, Bool.cond_decide, Int.toNat_natCast, get_d _ _ _ hk, ibne, black8_eq f, Option.bind_some]
  rw [Int.tdiv_eq_ediv_of_nonneg hr.1, wi64_id (n := (lst h)[k] / 32) (by omega) (by omega), wi64_id (n := (k : Int) + 1) (by omega) (by omega)]
  simp only [show ((0 : Int), (0 : Int), (0 : Int), ()) = sz from rfl]
  have hsp : h.2.1.getD ((lst h)[k] / 32).toNat sz = spanOf h (lst h)[k] := rfl
  rw [hsp]
  have e8 : r08_Refs (h, (lst h)[k], ()) = some (refsO h (lst h)[k], ()) := refs8_eq f ho
  have hrl := refs_len f (lst h)[k]
  simp only [e8, Option.bind_some, check_l2 f (k : Int) (l := refsO h (lst h)[k]) (by omega)]
  have p1 : (k : Int) < ((lst h).length : Int) := by omega
  have p2 : (0 : Int) ≤ (k : Int) := by omega
  have p3 : (0 : Int) ≤ (lst h)[k] / 32 := by omega
  have p4 : (lst h)[k] / 32 < (h.2.1.length : Int) := by omega
  simp only [if_pos p1, if_pos p2, if_pos p3, if_pos p4]
  by_cases e : (spanOf h (lst h)[k]).1 = 1
  ·have hx : rfdB h (lst h)[k] = (refsO h (lst h)[k]).all (okA h) := by unfold rfdB; rw [decide_eq_true e]; simp
   rw [if_neg (fun hh => hh e), hx]
   cases (refsO h (lst h)[k]).all (okA h)
   ·rfl
   ·simp only [if_true, Option.bind_some]
    rw [wi64_id (n := (k : Int) + 1) (by omega) (by omega)]
    rfl
  ·have hx : rfdB h (lst h)[k] = (!bk h (lst h)[k] || (refsO h (lst h)[k]).all (okA h)) := by unfold rfdB; rw [decide_eq_false e]; simp
   rw [if_pos e, hx]
   cases bk h (lst h)[k]
   ·rfl
   ·simp only [Bool.not_true, cond_false, Bool.false_or]
    cases (refsO h (lst h)[k]).all (okA h)
    ·rfl
    ·simp only [if_true, Option.bind_some]
     rw [wi64_id (n := (k : Int) + 1) (by omega) (by omega)]
     rfl
 ·simp only [r09_Check_s3, r09_Check_s3r, Bool.cond_decide]
  rw [if_neg (show ¬ (((lst h).length : Int) < ((lst h).length : Int)) by omega)]
theorem check9_eq {h : Heap} (g : Good cHeap h) : r09_Check (h, ()) = some (chkH h, ()) := by
 simp only [r09_Check, r09_Check_r, form_eq g, Option.bind_some, chkH]
 cases hb : formB h
 ·rfl
 have q := hp_ofG g hb
 simp only [Bool.not_true, cond_false, check_l1 q, Option.bind_some, if_true]
 cases filledB h
 ·rfl
 simp only [if_true]
 cases behindB h
 ·rfl
 simp only [if_true, ibne, Bool.cond_decide, list_eq q.f, Option.bind_some]
 rw [if_neg (by simp), refer_lst q.f]
 rcases check_l3 q.f with ⟨e1, e⟩ | ⟨e1, k, hk, e⟩
 ·simp only [Bool.not_eq_false'] at e1
  rw [e, e1]; rfl
 ·simp only [Bool.not_eq_true'] at e1
  rw [e, e1]; rfl
noncomputable def wholeW (w : WrldT) : Bool := formW w && (decide (chkH w.2.1 = 0) && rdyW w)
theorem worldWhole_eq {w : WrldT} (q : GW w) : world_Whole (w, ()) = some (wholeW w, ()) := by
 have hms := q.ms.len
 have hsp := q.sp
 have key : ScanR (w.2.2.1.any fun m => !rdyB w.1.2.2.1 m) w.2.2.1.length (world_Whole_l0 (w.2.2.1, (w.2.2.1.length : Int), 0, w, ())) () (fun i => ((i : Int), ())) := by
  unfold world_Whole_l0
  refine scan_any (fun i => (w.2.2.1, (w.2.2.1.length : Int), (i : Int), w, ())) (fun i hi => ?_) ?_ (by omega) rfl
  ·simp only [world_Whole_s0, world_Whole_s0r, Bool.cond_decide, Int.toNat_natCast, worldReady_eq, Option.bind_some]
   simp only [show (([] : List Val), (0 : Int), ((0 : Int), (0 : Int), (0 : Int), (0 : Int), ()), (0 : Int), ((0 : Int), (0 : Int), ()), List.replicate 4 (0 : Int), ()) = mz from rfl, get_d w.2.2.1 i mz hi]
   rw [if_pos (by omega), if_pos (by omega), if_pos (by omega), wi64_id (n := (i : Int) + 1) (by omega) (by omega)]
   cases rdyB w.1.2.2.1 w.2.2.1[i] <;> rfl
  ·simp only [world_Whole_s0, world_Whole_s0r, Bool.cond_decide]
   rw [if_neg (by omega)]
 rw [any_not] at key
 simp only [world_Whole, world_Whole_r, cycleForm_eq q, Option.bind_some, wholeW, sound_Ok, sound_Ok_r, soundCheck_eq q.gh (by omega), ibeq]
 cases formW w
 ·rfl
 simp only [cond_true, Bool.true_and]
 cases decide (chkH w.2.1 = 0)
 ·rfl
 simp only [cond_true, Bool.true_and, rdyW]
 rcases key with ⟨e1, e⟩ | ⟨e1, i, hi, e⟩
 ·simp only [Bool.not_eq_false'] at e1
  simp only [e, e1, Option.bind_some]
 ·simp only [Bool.not_eq_true'] at e1
  simp only [e, e1, Option.bind_some, decide_eq_true (show (i : Int) ≥ 0 by omega), Bool.not_true]
theorem whole22_eq {w : WrldT} (q : GW w) : r22_Whole (w, ()) = some (wholeW w, ()) := by
 have hms := q.ms.len
 simp only [r22_Whole, r22_Whole_r, form20_eq q, Option.bind_some, wholeW, check9_eq q.gh, ready21_eq (w := w) (by omega), ibeq]
 cases formW w
 ·rfl
 simp only [cond_true, Bool.true_and]
 cases decide (chkH w.2.1 = 0) <;> rfl
end Go.Proofs.YtbkjmefhenpmlaaGreatDoor.Den
/- Pure laws: audit, by the program and by the document. -/
namespace Go.Proofs.YtbkjmefhenpmlaaGreatDoor.Den
open Go
set_option linter.unusedVariables false
set_option linter.unusedSimpArgs false
set_option maxRecDepth 100000
def dcnt (h : Heap) : Nat := h.2.1.countP fun s => decide (s.1 = 2)
def itV (g : Grey) : List Val := g.2.1.map fun a => (2, a, ())
def todoL (m : MarkT) : List Val := m.2.2.1 ++ (m.2.1.flatMap itV ++ itV m.1) ++ [(2, m.2.2.2.1, ())]
structure GA (w : WrldT) : Prop where
 g : GW w
 hv : ∀ v : Val, v ∈ heldL w.2.2.1 → -9223372036854775808 ≤ v.2.1 ∧ v.2.1 < 9223372036854775808
 tv : ∀ v : Val, v ∈ todoL w.2.2.2.1 → -9223372036854775808 ≤ v.2.1 ∧ v.2.1 < 9223372036854775808
 rl : w.2.2.2.1.2.2.1.length ≤ 700
 gl : w.2.2.2.1.1.2.1.length ≤ 20
 bl : w.2.2.2.1.2.1.length ≤ 10
 il : ∀ g ∈ w.2.2.2.1.2.1, g.2.1.length ≤ 20
end Go.Proofs.YtbkjmefhenpmlaaGreatDoor.Den
/- Pure laws: which rule is broken, by the program and by the document. -/
namespace Go.Proofs.YtbkjmefhenpmlaaGreatDoor.Den
open Go
set_option linter.unusedVariables false
set_option linter.unusedSimpArgs false
set_option maxRecDepth 100000
noncomputable def heldO (w : WrldT) : List Int := (lst w.2.1).filter (rchB w.2.1 (heldL w.2.2.1))
end Go.Proofs.YtbkjmefhenpmlaaGreatDoor.Den
/- Pure laws: worlds that are few, whose numbers are good. -/
namespace Go.Proofs.YtbkjmefhenpmlaaGreatDoor.Den
open Go
set_option linter.unusedVariables false
set_option linter.unusedSimpArgs false
set_option maxRecDepth 100000
theorem good_val {v : Val} (g : Good cVal v) : -9223372036854775808 ≤ v.2.1 ∧ v.2.1 < 9223372036854775808 := by
 have h : (-9223372036854775808 : Int) ≤ v.2.1 ∧ v.2.1 ≤ 9223372036854775807 := g.2.1
 omega
theorem good_int {n : Int} (g : Good cI n) : -9223372036854775808 ≤ n ∧ n < 9223372036854775808 := by
 have h : (-9223372036854775808 : Int) ≤ n ∧ n ≤ 9223372036854775807 := g
 omega
theorem heldL_val {ms : List MutT} (g : Good (.sl cMut) ms) {v : Val} (hv : v ∈ heldL ms) : -9223372036854775808 ≤ v.2.1 ∧ v.2.1 < 9223372036854775808 := by
 unfold heldL at hv
 obtain ⟨m, hm, hv⟩ := List.mem_flatMap.1 hv
 have gm := g.2 m hm
 unfold held1 at hv
 rcases List.mem_append.1 hv with hv | hv
 ·exact good_val (gm.1.2 v hv)
 ·have ho : (-9223372036854775808 : Int) ≤ m.2.2.2.1 ∧ m.2.2.2.1 < 9223372036854775808 := good_int gm.2.2.2.1
  have hw : (-9223372036854775808 : Int) ≤ (m.2.2.2.2.1 : Val).2.1 ∧ (m.2.2.2.2.1 : Val).2.1 < 9223372036854775808 := good_val gm.2.2.2.2.1
  unfold regs at hv
  split at hv
  ·simp at hv; subst hv; exact ho
  ·split at hv
   ·simp at hv; subst hv; exact hw
   ·split at hv
    ·simp at hv
     rcases hv with rfl | rfl
     ·exact ho
     ·exact hw
    ·simp at hv
theorem itV_val {g : Grey} (h : Good cGrey g) {v : Val} (hv : v ∈ itV g) : -9223372036854775808 ≤ v.2.1 ∧ v.2.1 < 9223372036854775808 := by
 unfold itV at hv
 obtain ⟨a, ha, rfl⟩ := List.mem_map.1 hv
 exact good_int (h.2.1.2 a ha)
theorem todoL_val {m : MarkT} (g : Good cMarker m) {v : Val} (hv : v ∈ todoL m) : -9223372036854775808 ≤ v.2.1 ∧ v.2.1 < 9223372036854775808 := by
 unfold todoL at hv
 rcases List.mem_append.1 hv with hv | hv
 ·rcases List.mem_append.1 hv with hv | hv
  ·exact good_val (g.2.2.1.2 v hv)
  ·rcases List.mem_append.1 hv with hv | hv
   ·obtain ⟨x, hx, hv⟩ := List.mem_flatMap.1 hv
    exact itV_val (g.2.1.2 x hx) hv
   ·exact itV_val g.1 hv
 ·simp at hv
  subst hv
  exact good_int g.2.2.2.1
theorem few20_eq {w : WrldT} (gw : Good cWrld w) : ∃ b, r20_Few (w, ()) = some (b, ()) ∧ (b = true → GA w ∧ w.2.1.1.length ≤ 160 ∧ w.2.2.2.2.2.2.2.1.length ≤ 50) := by
 obtain ⟨b1, e1, h1⟩ := few18S_eq w.2.2.1
 obtain ⟨b2, e2, h2⟩ := few_eq w.2.2.2.1
 have gh : Good cHeap w.2.1 := gw.2.1
 have gm : Good (.sl cMut) w.2.2.1 := gw.2.2.1
 have gk : Good cMarker w.2.2.2.1 := gw.2.2.2.1
 simp only [r20_Few, r20_Few_r, e1, e2, Option.bind_some, Bool.cond_decide]
 by_cases c1 : (w.2.1.1.length : Int) ≤ 160
 ·rw [if_pos c1]
  by_cases c2 : (w.2.1.2.1.length : Int) ≤ 10
  ·rw [if_pos c2]
   cases b1 with
   | false => exact ⟨false, rfl, fun h => by cases h⟩
   | true =>
    cases b2 with
    | false => exact ⟨false, rfl, fun h => by cases h⟩
    | true =>
     refine ⟨_, rfl, fun h => ?_⟩
     have h3 := of_decide_eq_true h
     obtain ⟨a1, a2⟩ := h1 rfl
     obtain ⟨d1, d2, d3, d4⟩ := h2 rfl
     have ho := good_int gk.2.2.2.1
     refine ⟨⟨⟨gh, by omega, ⟨a1, a2, fun m hm => good_int (gm.2 m hm).2.2.2.1⟩, ⟨by omega, by omega, fun g hg => by have := d4 g hg; omega, ho⟩⟩, fun v hv => heldL_val gm hv, fun v hv => todoL_val gk hv, by omega, d1, d2, d4⟩, by omega, by omega⟩
  ·rw [if_neg c2]
   exact ⟨false, rfl, fun h => by cases h⟩
 ·rw [if_neg c1]
  exact ⟨false, rfl, fun h => by cases h⟩
end Go.Proofs.YtbkjmefhenpmlaaGreatDoor.Den
/- Pure laws: pages swept. -/
namespace Go.Proofs.YtbkjmefhenpmlaaGreatDoor.Den
open Go
set_option linter.unusedVariables false
set_option linter.unusedSimpArgs false
set_option maxRecDepth 100000
def dirtS (s : Span) : Span := if s.1 = 1 then (2, s.2) else s
def begS (h : Heap) : Heap := (h.1, h.2.1.map dirtS, h.2.2)
instance (s : Span) (i : Int) : Decidable (giveP s i) := by unfold giveP; infer_instance
instance (h : Heap) (a : Int) : Decidable (freeP h a) := by unfold freeP; infer_instance
def sw1 (w : Nat) (g : Heap × Int) (a : Int) : Heap × Int := if (okA g.1 a && !bk g.1 a) = true ∧ freeP g.1 a then (freed g.1 a, g.2 + (w : Int)) else g
def swF (h : Heap) (p : Nat) : Nat → Heap × Int
 | 0 => (h, 0)
 | n + 1 => sw1 (pgW h p) (swF h p n) (blA h p n)
structure SwI (h g : Heap) : Prop where
 hp : HP g
 wl : g.1.length = h.1.length
 sl : g.2.1.length = h.2.1.length
 cl : ∀ q, (g.2.1.getD q sz).1 = (h.2.1.getD q sz).1 ∧ (g.2.1.getD q sz).2.1 = (h.2.1.getD q sz).2.1
 c : g.2.2 = h.2.2
theorem getD_set_i {α : Type} (l : List α) (i j : Nat) (x z : α) : (l.set i x).getD j z = if i = j ∧ j < l.length then x else l.getD j z := by
 rw [List.getD_eq_getElem?_getD, List.getD_eq_getElem?_getD, List.getElem?_set]
 by_cases e : i = j
 ·subst e
  by_cases hl : i < l.length
  ·simp [hl]
  ·simp [hl]
 ·simp [e]
theorem SwI.freed {h g : Heap} (q : SwI h g) {a : Int} (i : freeP g a) : SwI h (freed g a) := by
 have hb := i.1
 have hr := fnd_room q.hp.f hb
 have h1 := fndB_rng hb
 have hc := cw_le (spanOf g a).2.1
 refine ⟨freed_hp q.hp i, ?_, ?_, fun r => ?_, q.c⟩
 ·show (zer g.1 a.toNat (cw (spanOf g a).2.1).toNat).length = _
  rw [zer_len (by omega), q.wl]
 ·show (g.2.1.set _ _).length = _
  rw [List.length_set, q.sl]
 ·show ((g.2.1.set _ _).getD r sz).1 = _ ∧ ((g.2.1.set _ _).getD r sz).2.1 = _
  rw [getD_set_i]
  split
  ·rename_i e
   have hs : spanOf g a = g.2.1.getD r sz := by unfold spanOf; rw [e.1]
   show (spanOf g a).1 = _ ∧ (spanOf g a).2.1 = _
   rw [hs]
   exact q.cl r
  ·exact q.cl r
theorem swF_ok {h : Heap} (q : HP h) (p : Nat) : ∀ n, SwI h (swF h p n).1 ∧ 0 ≤ (swF h p n).2 ∧ (swF h p n).2 ≤ (n : Int) * (pgW h p : Int)
 | 0 => ⟨⟨q, rfl, rfl, fun _ => ⟨rfl, rfl⟩, rfl⟩, by show (0 : Int) ≤ 0; omega, by show (0 : Int) ≤ _; simp⟩
 | n + 1 => by
  obtain ⟨h1, h2, h3⟩ := swF_ok q p n
  have e : ((n + 1 : Nat) : Int) * (pgW h p : Int) = (n : Int) * (pgW h p : Int) + (pgW h p : Int) := by rw [Int.natCast_succ, Int.add_mul, Int.one_mul]
  show SwI h (sw1 _ _ _).1 ∧ 0 ≤ (sw1 _ _ _).2 ∧ (sw1 _ _ _).2 ≤ _
  rw [e]
  unfold sw1
  split
  ·rename_i c
   exact ⟨h1.freed c.2, by show (0 : Int) ≤ _ + _; omega, by show _ + _ ≤ _; omega⟩
  ·exact ⟨h1, h2, by omega⟩
end Go.Proofs.YtbkjmefhenpmlaaGreatDoor.Den
/- Pure laws: the sweeper's turn, the marker's turn. -/
namespace Go.Proofs.YtbkjmefhenpmlaaGreatDoor.Den
open Go
set_option linter.unusedVariables false
set_option linter.unusedSimpArgs false
set_option maxRecDepth 100000
def oneG (h : Heap) (c : List (List Int)) (p : Nat) : Heap :=
 if ((swF h p (pgN h p)).1.2.1.getD p sz).2.2.1 = 2 ^ (cb (h.2.1.getD p sz).2.1).toNat - 1 ∧ ¬ keptP c p then ((swF h p (pgN h p)).1.1, (swF h p (pgN h p)).1.2.1.set p sz, h.2.2)
 else ((swF h p (pgN h p)).1.1, (swF h p (pgN h p)).1.2.1.set p (1, ((swF h p (pgN h p)).1.2.1.getD p sz).2), h.2.2)
def fstD (h : Heap) : Option Nat := h.2.1.findIdx? fun s => decide (s.1 = 2)
def swpH (h : Heap) (c : List (List Int)) : Heap := match fstD h with
 | none => h
 | some p => oneG h c p
theorem fstD_none {h : Heap} (e : fstD h = none) : ∀ i, i < h.2.1.length → (h.2.1.getD i sz).1 ≠ 2 := by
 intro i hi
 have := List.findIdx?_eq_none_iff.1 e _ (List.getElem_mem hi)
 rw [get_d _ _ _ hi]
 simpa using this
theorem fstD_some {h : Heap} {p : Nat} (e : fstD h = some p) : p < h.2.1.length ∧ (h.2.1.getD p sz).1 = 2 ∧ ∀ i, i < p → (h.2.1.getD i sz).1 ≠ 2 := by
 unfold fstD at e
 obtain ⟨hp, h1, h2⟩ := List.findIdx?_eq_some_iff_getElem.1 e
 refine ⟨hp, by rw [get_d _ _ _ hp]; exact of_decide_eq_true h1, fun i hi => ?_⟩
 have := h2 i hi
 rw [get_d _ _ _ (by omega)]
 simpa using this
def swpW (w : WrldT) : WrldT × Int × Unit :=
 if w.2.2.2.2.1 = 2 then
  if dcnt (swpH w.2.1 (cachesW w.2.2.1)) = 0 then ((w.1, swpH w.2.1 (cachesW w.2.2.1), w.2.2.1, w.2.2.2.1, 0, w.2.2.2.2.2), 5, ())
  else ((w.1, swpH w.2.1 (cachesW w.2.2.1), w.2.2), 1, ())
 else (w, 0, ())
theorem dcnt_zero {h : Heap} (hz : ∀ i, i < h.2.1.length → (h.2.1.getD i sz).1 ≠ 2) : dcnt h = 0 := by
 unfold dcnt
 rw [List.countP_eq_zero]
 intro s hs
 obtain ⟨i, hi, rfl⟩ := List.mem_iff_getElem.1 hs
 have := hz i hi
 rw [get_d _ _ _ hi] at this
 simpa using this
theorem oneG_len {h : Heap} (q : HP h) (c : List (List Int)) (p : Nat) : (oneG h c p).2.1.length = h.2.1.length ∧ (oneG h c p).1.length = h.1.length := by
 obtain ⟨I, -, -⟩ := swF_ok q p (pgN h p)
 have h1 := I.sl
 have h2 := I.wl
 unfold oneG
 split
 ·exact ⟨by show (List.set _ _ _).length = _; rw [List.length_set, h1], h2⟩
 ·exact ⟨by show (List.set _ _ _).length = _; rw [List.length_set, h1], h2⟩
theorem swpH_len {h : Heap} (q : HP h) (c : List (List Int)) : (swpH h c).2.1.length = h.2.1.length ∧ (swpH h c).1.length = h.1.length := by
 unfold swpH
 split
 ·exact ⟨rfl, rfl⟩
 ·exact oneG_len q c _
end Go.Proofs.YtbkjmefhenpmlaaGreatDoor.Den
/- Pure laws: what a report tells; the marker's turn. -/
namespace Go.Proofs.YtbkjmefhenpmlaaGreatDoor.Den
open Go
set_option linter.unusedVariables false
set_option linter.unusedSimpArgs false
set_option maxRecDepth 100000
noncomputable def tellW (w : WrldT) : Conf := (w.2.2.2.2.2.2.1, (w.2.1.1.length : Int) - usN w.2.1 w.2.1.2.1.length, wsum w.2.1 ((lst w.2.1).filter (bk w.2.1)), wsum w.2.1 ((lst w.2.1).filter (bk w.2.1)) - wsum w.2.1 (heldO w), usN w.2.1 w.2.1.2.1.length - wsum w.2.1 ((lst w.2.1).filter (bk w.2.1)), ())
noncomputable def mkrW (w : WrldT) : WrldT × Int × Unit :=
 if w.2.2.2.2.1 = 0 then
  if w.2.2.2.2.2.1 = true then
   ((w.1, turnS w.2.1, w.2.2.1, markM w.1.2.2.2.1 w.1.2.2.2.2.1 w.2.2.1.length (heldL w.2.2.1 ++ pendL w.2.1 w.2.2.1), 1, false, wi64 (w.2.2.2.2.2.2.1 + 1), w.2.2.2.2.2.2.2), 3, ())
  else (w, 0, ())
 else if w.2.2.2.2.1 = 1 then
  if (stp w.2.1 w.2.2.2.1).2.2.1 = true then
   ((w.1, begS w.2.1, w.2.2.1, ((0, [], ()), [], [], 0, 0, 0, false, ()), 2, w.2.2.2.2.2.1, w.2.2.2.2.2.2.1, w.2.2.2.2.2.2.2.1 ++ [tellW w], ()), 4, ())
  else ((w.1, (stp w.2.1 w.2.2.2.1).1, w.2.2.1, (stp w.2.1 w.2.2.2.1).2.1, w.2.2.2.2), 1, ())
 else if w.2.2.2.2.1 = 2 then swpW w
 else (w, 0, ())
end Go.Proofs.YtbkjmefhenpmlaaGreatDoor.Den
/- Pure laws: worlds alike with themselves; worlds copied. -/
namespace Go.Proofs.YtbkjmefhenpmlaaGreatDoor.Den
open Go
set_option linter.unusedVariables false
set_option linter.unusedSimpArgs false
set_option maxRecDepth 100000
structure SL (w : WrldT) : Prop where
 hw : w.2.1.1.length ≤ 1000
 hs : w.2.1.2.1.length ≤ 1000
 ml : w.2.2.1.length ≤ 1000
 st : ∀ m : MutT, m ∈ w.2.2.1 → m.1.length ≤ 1000
 gl : w.2.2.2.1.1.2.1.length ≤ 1000
 bl : w.2.2.2.1.2.1.length ≤ 1000
 il : ∀ g : Grey, g ∈ w.2.2.2.1.2.1 → g.2.1.length ≤ 1000
 rl : w.2.2.2.1.2.2.1.length ≤ 1000
 rp : w.2.2.2.2.2.2.2.1.length ≤ 1000
theorem same13_selfL {g : Grey} (h : g.2.1.length ≤ 1000) : r13_Same (g, g, ()) = some (true, ()) := by
 rw [same13_eq _ _ (by omega)]; simp
theorem same7_selfL {h : Heap} (h1 : h.1.length ≤ 1000) (h2 : h.2.1.length ≤ 1000) : r07_Same (h, h, ()) = some (true, ()) := by
 rw [same7_eq _ _ (by omega) (by omega)]; simp
theorem same17_selfL {m : MarkT} (hg : m.1.2.1.length ≤ 1000) (hb : m.2.1.length ≤ 1000) (hi : ∀ g : Grey, g ∈ m.2.1 → g.2.1.length ≤ 1000) (hv : m.2.2.1.length ≤ 1000) : r17_Same (m, m, ()) = some (true, ()) := by
 have key : r17_Same_l0 (0, m, m, ()) = some (.out ()) := by
  unfold r17_Same_l0
  refine iterL_run m.2.1.length (fun i => ((i : Int), m, m, ())) (fun i hi2 => ?_) ?_ (by omega) rfl
  ·have hm : m.2.1[i] ∈ m.2.1 := List.getElem_mem hi2
   simp only [r17_Same_s0, r17_Same_s0r, Bool.cond_decide, Int.toNat_natCast, get_d _ _ _ hi2, same13_selfL (hi _ hm), Option.bind_some]
   rw [if_pos (by omega), if_pos (by omega), if_pos (by omega), if_pos (by omega), if_pos (by omega), wi64_id (by omega) (by omega)]
   rfl
  ·simp only [r17_Same_s0, r17_Same_s0r, Bool.cond_decide]
   rw [if_neg (by omega)]
 have e : (!(m.2.2.2.2.2.2.1 == m.2.2.2.2.2.2.1)) = false := by simp
 simp only [r17_Same, r17_Same_r, key, Option.bind_some, ibne, Bool.cond_decide, not_true, if_false, e, cond_false, same13_selfL hg, same01_self hv, Bool.not_true]
theorem zip_self (l : List Int) : ((List.zip l l).all fun p => p.1 == p.2) = true := by
 induction l with
 | nil => rfl
 | cons a l ih => simpa using ih
theorem same18_self {m : MutT} (h : m.1.length ≤ 1000) : r18_Same (m, m, ()) = some (true, ()) := by
 simp only [r18_Same, r18_Same_r, same01_self h, Option.bind_some, beq_self_eq_true, Bool.and_self, cond_true, zip_self]
theorem sames18_self {ms : List MutT} (hl : ms.length ≤ 1000) (h : ∀ m : MutT, m ∈ ms → m.1.length ≤ 1000) : r18_Sames (ms, ms, ()) = some (true, ()) := by
 have key : r18_Sames_l0 (ms, ms, 0, ()) = some (.out ()) := by
  unfold r18_Sames_l0
  refine iterL_run ms.length (fun i => (ms, ms, (i : Int), ())) (fun i hi => ?_) ?_ (by omega) rfl
  ·have hm : ms[i] ∈ ms := List.getElem_mem hi
   simp only [r18_Sames_s0, r18_Sames_s0r, Bool.cond_decide, Int.toNat_natCast, get_d _ _ _ hi, same18_self (h _ hm), Option.bind_some]
   rw [if_pos (by omega), if_pos (by omega), if_pos (by omega), if_pos (by omega), if_pos (by omega), wi64_id (by omega) (by omega)]
   rfl
  ·simp only [r18_Sames_s0, r18_Sames_s0r, Bool.cond_decide]
   rw [if_neg (by omega)]
 simp only [r18_Sames, r18_Sames_r, key, Option.bind_some, bne_self_eq_false, cond_false]
theorem same20_self {w : WrldT} (q : SL w) : r20_Same (w, w, ()) = some (true, ()) := by
 have hr := q.rp
 have key : r20_Same_l0 (0, w, w, ()) = some (.out ()) := by
  unfold r20_Same_l0
  refine iterL_run w.2.2.2.2.2.2.2.1.length (fun i => ((i : Int), w, w, ())) (fun i hi => ?_) ?_ (by omega) rfl
  ·simp only [r20_Same_s0, r20_Same_s0r, Bool.cond_decide, beq_self_eq_true, Bool.and_self, Bool.not_true, cond_false]
   rw [if_pos (by omega), if_pos (by omega), if_pos (by omega), if_pos (by omega), if_pos (by omega), wi64_id (by omega) (by omega)]
   rfl
  ·simp only [r20_Same_s0, r20_Same_s0r, Bool.cond_decide]
   rw [if_neg (by omega)]
 simp only [r20_Same, r20_Same_r, beq_self_eq_true, bne_self_eq_false, Bool.and_self, Bool.not_true, cond_false, same7_selfL q.hw q.hs, sames18_self q.ml q.st, same17_selfL q.gl q.bl q.il q.rl, key, Option.bind_some]
end Go.Proofs.YtbkjmefhenpmlaaGreatDoor.Den
/- Pure laws: worlds that fit. -/
namespace Go.Proofs.YtbkjmefhenpmlaaGreatDoor.Den
open Go
set_option linter.unusedVariables false
set_option linter.unusedSimpArgs false
set_option maxRecDepth 100000
structure WF (w : WrldT) : Prop where
 q : GA w
 p : HP w.2.1
 h4 : Row4 (cachesW w.2.2.1)
 hc : mayP w.1
 hm : w.2.2.2.2.1 = 1 → MkP w.2.1 w.2.2.2.1
 ph : 0 ≤ w.2.2.2.2.1 ∧ w.2.2.2.2.1 ≤ 2
 wl : w.2.1.1.length ≤ 160
 rp : w.2.2.2.2.2.2.2.1.length ≤ 50
theorem WF.sl {w : WrldT} (F : WF w) : SL w := by
 have h1 := F.wl
 have h2 := F.rp
 have h3 := F.p.f.n16
 have q := F.q
 exact ⟨by omega, by omega, by have := q.g.ms.len; omega, fun m hm => by have := q.g.ms.st m hm; omega, by have := q.gl; omega, by have := q.bl; omega, fun g hg => by have := q.il g hg; omega, by have := q.rl; omega, by omega⟩
end Go.Proofs.YtbkjmefhenpmlaaGreatDoor.Den
/- Pure laws: what marking keeps. -/
namespace Go.Proofs.YtbkjmefhenpmlaaGreatDoor.Den
open Go
set_option linter.unusedVariables false
set_option linter.unusedSimpArgs false
set_option maxRecDepth 100000
theorem no_obj {h : Heap} (f : FormP h) (ha : apB h = true) {a : Int} (ho : (og h a).2.1 = true) {j : Int} (h0 : 0 ≤ j) (hj : j < cnt h a) : okA h (a + 1 + j) = false := by
 cases hb : okA h (a + 1 + j)
 ·rfl
 exfalso
 unfold okA at hb
 have hr := og_rng f ho
 obtain ⟨a1, a2, a3, a4⟩ := og_ok ho
 obtain ⟨b1, -, -, -⟩ := og_ok hb
 have hc := apart_of f ha ho
 unfold cnt at hj
 have hsp : spanOf h (a + 1 + j) = spanOf h a := by
  unfold spanOf
  rw [show (a + 1 + j) / 32 = a / 32 by omega]
 simp only [fndB, decide_eq_true_eq] at a1 b1
 rw [hsp] at b1
 rw [a4] at hc hj hr
 simp only [hd] at hc hj hr
 simp only [hok, Bool.and_eq_true, decide_eq_true_eq] at a2
 rw [hc] at a2
 have hcl := f.spanAt (a := a) (by omega) (by omega) a1.2.2.1
 have hw : h.1.getD a.toNat 0 % 16 < cw (spanOf h a).2.1 := by
  have e := a2.2
  generalize (spanOf h a).2.1 = c at *
  obtain rfl | rfl | rfl | rfl : c = 0 ∨ c = 1 ∨ c = 2 ∨ c = 3 := by omega
  all_goals exact e
 have m1 := a1.2.2.2
 have m2 := b1.2.2.2
 have h4 := class4 hcl.1 hcl.2
 generalize cw (spanOf h a).2.1 = w at *
 generalize cb (spanOf h a).2.1 = b at *
 generalize h.1.getD a.toNat 0 % 16 = c at *
 clear a1 b1 a2 hc
 rcases h4 with ⟨rfl, rfl⟩ | ⟨rfl, rfl⟩ | ⟨rfl, rfl⟩ | ⟨rfl, rfl⟩ <;> omega
theorem okA_pn {h : Heap} (f : FormP h) (S : Int → Bool) (a : Int) : okA (pn h S) a = okA h a := ok_pn f S a
theorem cnt_pnA {h : Heap} (f : FormP h) (S : Int → Bool) {a : Int} (ho : okA h a = true) : cnt (pn h S) a = cnt h a := by
 unfold cnt
 rw [og_pn f, if_pos (show (og h a).2.1 = true from ho)]
theorem fe_pn {h : Heap} (f : FormP h) (S : Int → Bool) (a i : Int) : fe (pn h S) a i = fe h a i := by
 unfold fe
 rw [ok_pn f]
 by_cases ho : (og h a).2.1 = true
 ·rw [if_pos ho, if_pos ho, show (og (pn h S) a).1.2.2.2.1 = (og h a).1.2.2.2.1 from cnt_pnA f S ho]
 ·rw [if_neg ho, if_neg ho]
theorem word_pn {h : Heap} (f : FormP h) (ha : apB h = true) (S : Int → Bool) {a i : Int} (he : fe h a i = 0) : (pn h S).1.getD (a + 1 + i).toNat 0 = h.1.getD (a + 1 + i).toNat 0 := by
 obtain ⟨ho, i0, i1⟩ := fe_ok he
 have hr := og_rng f ho
 have hl := f.len
 have hc : cnt h a = (og h a).1.2.2.2.1 := rfl
 have e : (((a + 1 + i).toNat : Nat) : Int) = a + 1 + i := by omega
 rw [pn_word _ _ _ (by omega), e]
 have := no_obj f ha ho i0 i1
 unfold okA at this
 rw [this]; simp
theorem fldV_pn {h : Heap} (f : FormP h) (ha : apB h = true) (S : Int → Bool) (a i : Int) : fldV (pn h S) a i = fldV h a i := by
 unfold fldV
 rw [fe_pn f]
 by_cases he : fe h a i = 0
 ·rw [if_pos he, if_pos he, word_pn f ha S he]
 ·rw [if_neg he, if_neg he]
structure Tgt (h : Heap) (a i b : Int) : Prop where
 fe : fe h a i = 0
 k : (fldV h a i).1 = 2
 n : (fldV h a i).2.1 = b
 ok : okA h b = true
theorem mem_rfN {h : Heap} {a b : Int} : ∀ {n : Nat}, b ∈ rfN h a n ↔ ∃ i : Nat, i < n ∧ (rg (h.1.getD (a + 1 + i).toNat 0)).1 = 2 ∧ (rg (h.1.getD (a + 1 + i).toNat 0)).2.1 = b
 | 0 => by simp [rfN]
 | n + 1 => by
  rw [rfN_succ]
  constructor
  ·intro hb
   split at hb
   ·rename_i h2
    rcases List.mem_append.1 hb with hb | hb
    ·obtain ⟨i, h1, h3⟩ := mem_rfN.1 hb
     exact ⟨i, by omega, h3⟩
    ·exact ⟨n, by omega, h2, (List.mem_singleton.1 hb).symm⟩
   ·obtain ⟨i, h1, h3⟩ := mem_rfN.1 hb
    exact ⟨i, by omega, h3⟩
  ·rintro ⟨i, h1, h2, h3⟩
   by_cases e : i = n
   ·subst e
    rw [if_pos h2, List.mem_append]
    exact .inr (List.mem_singleton.2 h3.symm)
   ·have := mem_rfN.2 ⟨i, show i < n by omega, h2, h3⟩
    split
    ·exact List.mem_append_left _ this
    ·exact this
theorem fldV_rg {h : Heap} (f : FormP h) {a i : Int} (he : fe h a i = 0) : fldV h a i = rg (h.1.getD (a + 1 + i).toNat 0) := by
 have hw := word_at f (a + 1 + i).toNat
 unfold fldV
 rw [if_pos he, wg_rg hw.1 hw.2]
theorem tgt_refs {h : Heap} (f : FormP h) {a i b : Int} (t : Tgt h a i b) : b ∈ refsO h a := by
 obtain ⟨ho, i0, i1⟩ := fe_ok t.fe
 have h1 := t.k
 have h2 := t.n
 rw [fldV_rg f t.fe] at h1 h2
 refine mem_rfN.2 ⟨i.toNat, by omega, ?_, ?_⟩
 ·rw [Int.toNat_of_nonneg i0]; exact h1
 ·rw [Int.toNat_of_nonneg i0]; exact h2
theorem refs_tgt {h : Heap} (f : FormP h) {a b : Int} (ho : okA h a = true) (hb : b ∈ refsO h a) (hob : okA h b = true) : ∃ i, Tgt h a i b := by
 obtain ⟨i, h1, h2, h3⟩ := mem_rfN.1 hb
 have he : fe h a (i : Int) = 0 := by
  unfold fe
  rw [if_pos (show (og h a).2.1 = true from ho), if_pos]
  have : cnt h a = (og h a).1.2.2.2.1 := rfl
  omega
 exact ⟨i, he, by rw [fldV_rg f he]; exact h2, by rw [fldV_rg f he]; exact h3, hob⟩
theorem bk_ok {h : Heap} {a : Int} (hb : bk h a = true) : okA h a = true := by
 unfold bk at hb
 rw [Bool.and_eq_true] at hb
 exact hb.1
inductive Shd (h : Heap) (g : Grey) (v : Val) : Heap → Grey → Bool → Prop
 | none : (v.1 = 2 → okA h v.2.1 = true → bk h v.2.1 = true) → Shd h g v h g false
 | push : v.1 = 2 → okA h v.2.1 = true → bk h v.2.1 = false → 0 ≤ v.2.1 → (g.2.1.length : Int) < g.1 → Shd h g v (pn h (fun b => v.2.1 == b)) (g.1, g.2.1 ++ [v.2.1], ()) false
 | full : v.1 = 2 → okA h v.2.1 = true → bk h v.2.1 = false → Shd h g v (pn h (fun b => v.2.1 == b)) g true
theorem shd {h : Heap} (f : FormP h) (g : Grey) (v : Val) : Shd h g v (sh h g v).1 (sh h g v).2.1 (sh h g v).2.2.1 := by
 unfold sh
 by_cases hc : v.1 = 2 ∧ (og h v.2.1).2.1 = true ∧ bk h v.2.1 = false
 ·rw [if_pos hc]
  obtain ⟨h1, h2, h3⟩ := hc
  have h0 := (fndB_rng (og_ok h2).1).1
  show Shd h g v (nh h v.2.1) (gp g v.2.1).1 (!(gp g v.2.1).2.1)
  rw [nh_pn f h2]
  unfold gp
  by_cases hr : v.2.1 < 0 ∨ g.1 ≤ g.2.1.length
  ·rw [if_pos hr]
   exact .full h1 h2 h3
  ·rw [if_neg hr]
   exact .push h1 h2 h3 h0 (by omega)
 ·rw [if_neg hc]
  refine .none fun h1 h2 => ?_
  cases h3 : bk h v.2.1 with
  | true => rfl
  | false => exact absurd ⟨h1, h2, h3⟩ hc
inductive Stp (h : Heap) : MarkT → Heap → MarkT → Prop
 | fld {g g' : Grey} {bs : List Grey} {rs : List Val} {o i c : Int} {v w : Bool} {h' : Heap} : o ≠ -1 → fe h o i = 0 → Shd h g (fldV h o i) h' g' w →
   Stp h (g, bs, rs, o, i, c, v, ()) h' (g', bs, rs, (if cnt h o ≤ i + 1 then -1 else o), (if cnt h o ≤ i + 1 then 0 else i + 1), c, v || w, ())
 | pop {r : Int} {l : List Int} {a : Int} {bs : List Grey} {rs : List Val} {c : Int} {v : Bool} : Stp h ((r, l ++ [a], ()), bs, rs, -1, 0, c, v, ()) h (hand h ((r, l, ()), bs, rs, -1, 0, c, v, ()) a)
 | row {g : Grey} {xs ys : List Grey} {r : Int} {l : List Int} {a : Int} {rs : List Val} {c : Int} {v : Bool} : Stp h (g, xs ++ (r, l ++ [a], ()) :: ys, rs, -1, 0, c, v, ()) h (hand h (g, xs ++ (r, l, ()) :: ys, rs, -1, 0, c, v, ()) a)
 | root {g g' : Grey} {bs : List Grey} {x : Val} {rs : List Val} {c : Int} {v w : Bool} {h' : Heap} : Shd h g x h' g' w → Stp h (g, bs, x :: rs, -1, 0, c, v, ()) h' (g', bs, rs, -1, 0, c, v || w, ())
 | cur {g : Grey} {bs : List Grey} {rs : List Val} {c : Int} {v : Bool} {a : Int} : c ≠ -1 → c ≤ a → bk h a = true → (∀ x, c ≤ x → bk h x = true → a ≤ x) → Stp h (g, bs, rs, -1, 0, c, v, ()) h (hand h (g, bs, rs, -1, 0, a + 1, v, ()) a)
 | noc {g : Grey} {bs : List Grey} {rs : List Val} {c : Int} {v : Bool} : c ≠ -1 → (∀ x, c ≤ x → bk h x = false) → Stp h (g, bs, rs, -1, 0, c, v, ()) h (g, bs, rs, -1, 0, -1, v, ())
 | ovr {g : Grey} {bs : List Grey} {rs : List Val} : Stp h (g, bs, rs, -1, 0, -1, true, ()) h (g, bs, rs, -1, 0, 0, false, ())
structure Dn (m : MarkT) : Prop where
 g : m.1.2.1 = []
 b : ∀ g ∈ m.2.1, g.2.1 = []
 r : m.2.2.1 = []
 o : m.2.2.2.1 = -1
 c : m.2.2.2.2.2.1 = -1
 v : m.2.2.2.2.2.2.1 = false
theorem concat_last {l : List Int} (h : l ≠ []) : l = initI l ++ [lastI l] := by
 have hp : 0 < l.length := List.length_pos_iff.2 h
 have e := List.take_append_getElem (l := l) (i := l.length - 1) (by omega)
 unfold initI lastI
 rw [get_d _ _ _ (by omega), e, List.take_of_length_le (by omega)]
theorem stp_cases {h : Heap} (f : FormP h) {m : MarkT} (p : MkP h m) : (stp h m = (h, m, true, ()) ∧ Dn m) ∨ ∃ h' m', stp h m = (h', m', false, ()) ∧ Stp h m h' m' := by
 obtain ⟨⟨gr, gl, ⟨⟩⟩, bs, rs, o, i, c, v, ⟨⟩⟩ := m
 unfold stp
 simp only
 by_cases ho : o = -1
 ·subst ho
  have hi : i = 0 := by
   rcases p.ob with h1 | h1
   ·exact h1.2
   ·have := (fndB_rng (og_ok (fe_ok h1).1).1).1
    simp only at this
    omega
  subst hi
  rw [if_pos rfl]
  by_cases hg : gl = []
  ·rw [if_pos hg]
   cases hf : fstB bs with
   | some k =>
    obtain ⟨k1, k2, -⟩ := fstB_some hf
    have hne : (bs.getD k (0, [], ())).2.1 ≠ [] := List.length_pos_iff.1 k2
    refine .inr ⟨_, _, rfl, ?_⟩
    have e1 : bs = bs.take k ++ ((bs.getD k (0, [], ())).1, initI (bs.getD k (0, [], ())).2.1 ++ [lastI (bs.getD k (0, [], ())).2.1], ()) :: bs.drop (k + 1) := by
     rw [← concat_last hne, get_d _ _ _ k1]
     exact (List.take_append_drop k bs).symm.trans (by rw [List.drop_eq_getElem_cons k1])
    have e2 : bs.set k (popG (bs.getD k (0, [], ()))).1 = bs.take k ++ ((bs.getD k (0, [], ())).1, initI (bs.getD k (0, [], ())).2.1, ()) :: bs.drop (k + 1) := by
     unfold popG
     rw [if_neg hne, List.set_eq_take_append_cons_drop, if_pos k1]
    rw [e2]
    have := @Stp.row h (gr, gl, ()) (bs.take k) (bs.drop (k + 1)) (bs.getD k (0, [], ())).1 (initI (bs.getD k (0, [], ())).2.1) (lastI (bs.getD k (0, [], ())).2.1) rs c v
    rw [← e1] at this
    exact this
   | none =>
    have hz := fstB_none hf
    cases rs with
    | cons x xs =>
     exact .inr ⟨_, _, rfl, .root (shd f _ _)⟩
    | nil =>
     simp only
     by_cases hc : c = -1
     ·subst hc
      rw [if_pos rfl]
      cases v with
      | true => exact .inr ⟨_, _, rfl, .ovr⟩
      | false =>
       refine .inl ⟨rfl, hg, fun g hg => ?_, rfl, rfl, rfl, rfl⟩
       obtain ⟨j, hj, rfl⟩ := List.getElem_of_mem hg
       have := hz j hj
       rw [get_d _ _ _ hj] at this
       exact List.eq_nil_of_length_eq_zero this
     ·rw [if_neg hc]
      cases hn : nxt h c with
      | some a =>
       unfold nxt at hn
       have h1 := List.find?_some hn
       rw [Bool.and_eq_true, decide_eq_true_eq] at h1
       refine .inr ⟨_, _, rfl, .cur hc h1.1 h1.2 fun x hx hb => ?_⟩
       obtain ⟨_, j, hj, e, hlt⟩ := List.find?_eq_some_iff_getElem.1 hn
       obtain ⟨k, hk, rfl⟩ := List.getElem_of_mem ((mem_lst f).2 (bk_ok hb))
       have hs := List.pairwise_iff_getElem.1 (lst_sorted h)
       rcases Nat.lt_trichotomy k j with hkj | hkj | hkj
       ·have := hlt k hkj
        rw [hb, decide_eq_true hx] at this
        cases this
       ·subst hkj; omega
       ·have := hs j k hj hk hkj
        omega
      | none =>
       unfold nxt at hn
       rw [List.find?_eq_none] at hn
       refine .inr ⟨_, _, rfl, .noc hc fun x hx => ?_⟩
       cases hb : bk h x with
       | false => rfl
       | true =>
        have := hn x ((mem_lst f).2 (bk_ok hb))
        rw [hb, decide_eq_true hx] at this
        exact absurd rfl this
  ·rw [if_neg hg]
   refine .inr ⟨_, _, rfl, ?_⟩
   have := @Stp.pop h gr (initI gl) (lastI gl) bs rs c v
   rw [← concat_last hg] at this
   simp only [popG, if_neg hg]
   exact this
 ·rw [if_neg ho]
  have he : fe h o i = 0 := p.ob.resolve_left fun h => ho h.1
  have := Stp.fld (g := (gr, gl, ())) (bs := bs) (rs := rs) (c := c) (v := v) ho he (shd f (gr, gl, ()) (fldV h o i))
  by_cases hc : cnt h o ≤ i + 1
  ·rw [if_pos hc]
   rw [if_pos hc, if_pos hc] at this
   exact .inr ⟨_, _, rfl, this⟩
  ·rw [if_neg hc]
   rw [if_neg hc, if_neg hc] at this
   exact .inr ⟨_, _, rfl, this⟩
end Go.Proofs.YtbkjmefhenpmlaaGreatDoor.Den
/- Pure laws: what marking keeps, and how long it goes on. -/
namespace Go.Proofs.YtbkjmefhenpmlaaGreatDoor.Den
open Go
set_option linter.unusedVariables false
set_option linter.unusedSimpArgs false
set_option maxRecDepth 100000
theorem bk_pn1 {h : Heap} (f : FormP h) (b a : Int) : bk (pn h (fun x => b == x)) a = true ↔ okA h a = true ∧ (b = a ∨ bk h a = true) := by
 rw [bk_pn f, Bool.and_eq_true, Bool.or_eq_true, beq_iff_eq]
 exact Iff.rfl
theorem Shd.paint {h h' : Heap} {g g' : Grey} {v : Val} {w : Bool} (s : Shd h g v h' g' w) : ∃ T, h' = pn h T := by
 cases s with
 | none _ => exact ⟨fun _ => false, pn_none.symm⟩
 | push _ _ _ _ _ => exact ⟨_, rfl⟩
 | full _ _ _ => exact ⟨_, rfl⟩
structure ShdF (h : Heap) (g : Grey) (v : Val) (h' : Heap) (g' : Grey) (w : Bool) : Prop where
 up : ∀ a, bk h a = true → bk h' a = true
 new : ∀ a, bk h' a = true → bk h a = true ∨ (v.1 = 2 ∧ v.2.1 = a ∧ okA h a = true ∧ (a ∈ g'.2.1 ∨ w = true))
 now : v.1 = 2 → okA h v.2.1 = true → bk h' v.2.1 = true
 iu : ∀ a, a ∈ g.2.1 → a ∈ g'.2.1
 inw : ∀ a, a ∈ g'.2.1 → a ∈ g.2.1 ∨ (v.1 = 2 ∧ v.2.1 = a ∧ okA h a = true)
 gr : GreyP g → GreyP g'
theorem Shd.facts {h h' : Heap} (f : FormP h) {g g' : Grey} {v : Val} {w : Bool} (s : Shd h g v h' g' w) : ShdF h g v h' g' w := by
 cases s with
 | none h1 => exact ⟨fun _ h => h, fun _ h => .inl h, h1, fun _ h => h, fun _ h => .inl h, fun h => h⟩
 | push h1 h2 h3 h4 h5 =>
  refine ⟨fun a ha => (bk_pn1 f _ _).2 ⟨bk_ok ha, .inr ha⟩, fun a ha => ?_, fun _ _ => (bk_pn1 f _ _).2 ⟨h2, .inl rfl⟩, fun a ha => List.mem_append_left _ ha, fun a ha => ?_, fun p => ⟨p.r0, p.r16, ?_⟩⟩
  ·obtain ⟨q1, q2 | q2⟩ := (bk_pn1 f _ _).1 ha
   ·exact .inr ⟨h1, q2, q1, .inl (by rw [← q2]; exact List.mem_append_right _ (List.mem_singleton.2 rfl))⟩
   ·exact .inl q2
  ·rcases List.mem_append.1 ha with ha | ha
   ·exact .inl ha
   ·have ha := List.mem_singleton.1 ha
    exact .inr ⟨h1, ha.symm, by rw [ha]; exact h2⟩
  ·show ((g.2.1 ++ [v.2.1]).length : Int) ≤ g.1
   rw [List.length_append, List.length_singleton]
   omega
 | full h1 h2 h3 =>
  refine ⟨fun a ha => (bk_pn1 f _ _).2 ⟨bk_ok ha, .inr ha⟩, fun a ha => ?_, fun _ _ => (bk_pn1 f _ _).2 ⟨h2, .inl rfl⟩, fun _ h => h, fun _ h => .inl h, fun h => h⟩
  obtain ⟨q1, q2 | q2⟩ := (bk_pn1 f _ _).1 ha
  ·exact .inr ⟨h1, q2, q1, .inr rfl⟩
  ·exact .inl q2
theorem hand_cases (h : Heap) (g : Grey) (bs : List Grey) (rs : List Val) (c : Int) (v : Bool) (a : Int) : (okA h a = true ∧ 0 < cnt h a ∧ hand h (g, bs, rs, -1, 0, c, v, ()) a = (g, bs, rs, a, 0, c, v, ())) ∨ (¬ (okA h a = true ∧ 0 < cnt h a) ∧ hand h (g, bs, rs, -1, 0, c, v, ()) a = (g, bs, rs, -1, 0, c, v, ())) := by
 unfold hand
 by_cases hc : (og h a).2.1 = true ∧ 0 < cnt h a
 ·rw [if_pos hc]; exact .inl ⟨hc.1, hc.2, rfl⟩
 ·rw [if_neg hc]; exact .inr ⟨hc, rfl⟩
theorem fe_0 {h : Heap} {a i : Int} (ho : okA h a = true) (h0 : 0 ≤ i) (h1 : i < cnt h a) : fe h a i = 0 := by
 unfold fe
 rw [if_pos (show (og h a).2.1 = true from ho), if_pos ⟨h0, h1⟩]
theorem hand_mk {h : Heap} (f : FormP h) {g : Grey} {bs : List Grey} {rs : List Val} {c : Int} {v : Bool} (a : Int) (p : MkP h (g, bs, rs, -1, 0, c, v, ())) : MkP h (hand h (g, bs, rs, -1, 0, c, v, ()) a) := by
 rcases hand_cases h g bs rs c v a with ⟨h1, h2, e⟩ | ⟨_, e⟩
 ·rw [e]
  exact ⟨p.g, p.gi, p.b, p.bi, p.bl, p.rl, p.rv, p.cur, .inr (fe_0 h1 (Int.le_refl 0) h2)⟩
 ·rw [e]; exact p
theorem Shd.inI {h h' : Heap} (f : FormP h) {g g' : Grey} {v : Val} {w : Bool} (s : Shd h g v h' g' w) (hi : ∀ a ∈ g.2.1, inI a) : ∀ a ∈ g'.2.1, inI a := by
 intro a ha
 rcases (s.facts f).inw a ha with h1 | ⟨_, _, h1⟩
 ·exact hi a h1
 ·have := og_rng f h1
  have := f.n16
  exact ⟨by omega, by omega⟩
theorem MkP.pn {h : Heap} (f : FormP h) (T : Int → Bool) {m : MarkT} (p : MkP h m) : MkP (pn h T) m :=
 ⟨p.g, p.gi, p.b, p.bi, p.bl, p.rl, p.rv, by rw [pn_len]; exact p.cur, by rw [fe_pn f]; exact p.ob⟩
theorem Stp.paint {h h' : Heap} {m m' : MarkT} (s : Stp h m h' m') : ∃ T, h' = pn h T := by
 cases s with
 | fld _ _ s => exact s.paint
 | root s => exact s.paint
 | _ => exact ⟨fun _ => false, pn_none.symm⟩
theorem Stp.mk {h h' : Heap} (f : FormP h) {m m' : MarkT} (s : Stp h m h' m') (p : MkP h m) : MkP h' m' := by
 cases s with
 | @fld g g' bs rs o i c v w h' ho he s =>
  obtain ⟨T, rfl⟩ := s.paint
  have sf := s.facts f
  have : MkP h (g', bs, rs, (if cnt h o ≤ i + 1 then -1 else o), (if cnt h o ≤ i + 1 then 0 else i + 1), c, v || w, ()) := by
   refine ⟨sf.gr p.g, s.inI f p.gi, p.b, p.bi, p.bl, p.rl, p.rv, p.cur, ?_⟩
   show ((if cnt h o ≤ i + 1 then -1 else o) = -1 ∧ (if cnt h o ≤ i + 1 then 0 else i + 1) = 0) ∨ fe h (if cnt h o ≤ i + 1 then -1 else o) (if cnt h o ≤ i + 1 then 0 else i + 1) = 0
   by_cases hc : cnt h o ≤ i + 1
   ·rw [if_pos hc, if_pos hc]; exact .inl ⟨rfl, rfl⟩
   ·rw [if_neg hc, if_neg hc]
    have := fe_ok he
    exact .inr (fe_0 this.1 (by omega) (by omega))
  exact this.pn f T
 | @pop r l a bs rs c v =>
  refine hand_mk f a ⟨⟨p.g.r0, p.g.r16, ?_⟩, fun x hx => p.gi x (List.mem_append_left _ hx), p.b, p.bi, p.bl, p.rl, p.rv, p.cur, p.ob⟩
  have := p.g.len
  simp only [List.length_append, List.length_singleton] at this
  show (l.length : Int) ≤ r
  omega
 | @row g xs ys r l a rs c v =>
  have hm : (r, l ++ [a], ()) ∈ xs ++ (r, l ++ [a], ()) :: ys := List.mem_append_right _ List.mem_cons_self
  have q := p.b _ hm
  have hr : ∀ x, x ∈ xs ++ (r, l, ()) :: ys → x = (r, l, ()) ∨ x ∈ xs ++ (r, l ++ [a], ()) :: ys := fun x hx => by
   rcases List.mem_append.1 hx with hx | hx
   ·exact .inr (List.mem_append_left _ hx)
   ·rcases List.mem_cons.1 hx with hx | hx
    ·exact .inl hx
    ·exact .inr (List.mem_append_right _ (List.mem_cons_of_mem _ hx))
  refine hand_mk f a ⟨p.g, p.gi, fun x hx => ?_, fun x hx => ?_, ?_, p.rl, p.rv, p.cur, p.ob⟩
  ·rcases hr x hx with rfl | hx
   ·refine ⟨q.r0, q.r16, ?_⟩
    have := q.len
    simp only [List.length_append, List.length_singleton] at this
    show (l.length : Int) ≤ r
    omega
   ·exact p.b x hx
  ·rcases hr x hx with rfl | hx
   ·exact fun y hy => p.bi _ hm y (List.mem_append_left _ hy)
   ·exact p.bi x hx
  ·have := p.bl
   simp only [List.length_append, List.length_cons] at this ⊢
   exact this
 | @root g g' bs x rs c v w h' s =>
  obtain ⟨T, rfl⟩ := s.paint
  have hrl := p.rl
  rw [List.length_cons] at hrl
  have : MkP h (g', bs, rs, -1, 0, c, v || w, ()) := ⟨(s.facts f).gr p.g, s.inI f p.gi, p.b, p.bi, p.bl, by show rs.length ≤ 1000; omega, fun y hy => p.rv y (List.mem_cons_of_mem _ hy), p.cur, p.ob⟩
  exact this.pn f T
 | @cur g bs rs c v a hc ha hb hx =>
  have h1 := og_rng f (bk_ok hb)
  have h2 := f.len
  refine hand_mk f a ⟨p.g, p.gi, p.b, p.bi, p.bl, p.rl, p.rv, ?_, p.ob⟩
  show -1 ≤ a + 1 ∧ a + 1 ≤ (h.1.length : Int)
  omega
 | noc hc hx =>
  exact ⟨p.g, p.gi, p.b, p.bi, p.bl, p.rl, p.rv, ⟨by show (-1 : Int) ≤ -1; omega, by show (-1 : Int) ≤ (h.1.length : Int); omega⟩, p.ob⟩
 | ovr =>
  exact ⟨p.g, p.gi, p.b, p.bi, p.bl, p.rl, p.rv, ⟨by show (-1 : Int) ≤ 0; omega, by show (0 : Int) ≤ (h.1.length : Int); omega⟩, p.ob⟩
theorem mem_mid {α : Type} {xs ys : List α} {g g' x : α} (h : x ∈ xs ++ g' :: ys) : x = g' ∨ x ∈ xs ++ g :: ys := by
 rcases List.mem_append.1 h with h | h
 ·exact .inr (List.mem_append_left _ h)
 ·rcases List.mem_cons.1 h with h | h
  ·exact .inl h
  ·exact .inr (List.mem_append_right _ (List.mem_cons_of_mem _ h))
theorem mem_here {α : Type} {xs ys : List α} {g : α} : g ∈ xs ++ g :: ys := List.mem_append_right _ List.mem_cons_self
def itm (m : MarkT) (a : Int) : Prop := a ∈ m.1.2.1 ∨ ∃ g ∈ m.2.1, a ∈ g.2.1
structure Snd (h0 : Heap) (vs : List Val) (h : Heap) (m : MarkT) : Prop where
 b : ∀ a, bk h a = true → Rch h0 vs a
 r : ∀ a, okA h0 a = true → named m.2.2.1 a = true → Rch h0 vs a
 i : ∀ a, okA h0 a = true → itm m a → Rch h0 vs a
 o : m.2.2.2.1 ≠ -1 → Rch h0 vs m.2.2.2.1
theorem Snd.hand {h0 h : Heap} (f0 : FormP h0) {S : Int → Bool} (e : h = pn h0 S) {vs : List Val} {g : Grey} {bs : List Grey} {rs : List Val} {c : Int} {v : Bool} {a : Int} (p : Snd h0 vs h (g, bs, rs, -1, 0, c, v, ())) (ha : okA h0 a = true → Rch h0 vs a) : Snd h0 vs h (hand h (g, bs, rs, -1, 0, c, v, ()) a) := by
 rcases hand_cases h g bs rs c v a with ⟨h1, h2, e'⟩ | ⟨_, e'⟩
 ·rw [e']
  rw [e, okA_pn f0] at h1
  exact ⟨p.b, p.r, p.i, fun _ => ha h1⟩
 ·rw [e']; exact p
def cov (m : MarkT) (a i : Int) : Prop := itm m a ∨ (m.2.2.2.1 = a ∧ m.2.2.2.2.1 ≤ i) ∨ m.2.2.2.2.2.2.1 = true ∨ (m.2.2.2.2.2.1 ≠ -1 ∧ m.2.2.2.2.2.1 ≤ a)
end Go.Proofs.YtbkjmefhenpmlaaGreatDoor.Den
/- Pure laws: how long marking goes on. -/
namespace Go.Proofs.YtbkjmefhenpmlaaGreatDoor.Den
open Go
set_option linter.unusedVariables false
set_option linter.unusedSimpArgs false
set_option maxRecDepth 100000
theorem countP_up {α : Type} {p q : α → Bool} : ∀ {l : List α}, (∀ x ∈ l, q x = true → p x = true) → l.countP q ≤ l.countP p
 | [], _ => Nat.le_refl _
 | x :: l, h => by
  have ih := countP_up (p := p) (q := q) (l := l) fun y hy => h y (List.mem_cons_of_mem _ hy)
  rw [List.countP_cons, List.countP_cons]
  cases hq : q x with
  | true => rw [h x List.mem_cons_self hq]; simp; exact ih
  | false => cases p x <;> simp <;> omega
theorem countP_lt {α : Type} {p q : α → Bool} {a : α} : ∀ {l : List α}, (∀ x ∈ l, q x = true → p x = true) → a ∈ l → p a = true → q a = false → l.countP q + 1 ≤ l.countP p
 | x :: l, h, ha, h1, h2 => by
  have ih := countP_up (p := p) (q := q) (l := l) fun y hy => h y (List.mem_cons_of_mem _ hy)
  rw [List.countP_cons, List.countP_cons]
  rcases List.mem_cons.1 ha with rfl | ha
  ·rw [h1, h2]; simp; exact ih
  ·have ih := countP_lt (p := p) (q := q) (l := l) (fun y hy => h y (List.mem_cons_of_mem _ hy)) ha h1 h2
   cases hq : q x with
   | true => rw [h x List.mem_cons_self hq]; simp; omega
   | false => cases p x <;> simp <;> omega
def wht (h0 h : Heap) : Nat := (lst h0).countP fun a => !bk h a
def nit (m : MarkT) : Nat := m.1.2.1.length + (m.2.1.map fun g => g.2.1.length).sum
def ovP (h0 : Heap) (v : Bool) : Nat := if v = true then 17 * (lst h0).length + 2 else 0
def curP (h0 : Heap) (c : Int) : Nat := if c = -1 then 0 else 1 + 17 * (lst h0).countP fun a => decide (c ≤ a)
def hndP (h0 : Heap) (o i : Int) : Nat := if o = -1 then 0 else (cnt h0 o - i).toNat
def pot (h0 h : Heap) (m : MarkT) : Nat := wht h0 h * (17 * (lst h0).length + 8) + ovP h0 m.2.2.2.2.2.2.1 + curP h0 m.2.2.2.2.2.1 + m.2.2.1.length + 17 * nit m + hndP h0 m.2.2.2.1 m.2.2.2.2.1
theorem Shd.pot {h0 h h' : Heap} (f0 : FormP h0) {S : Int → Bool} (e : h = pn h0 S) {g g' : Grey} {v : Val} {w : Bool} (s : Shd h g v h' g' w) (b : Bool) :
  wht h0 h' * (17 * (lst h0).length + 8) + 17 * g'.2.1.length + ovP h0 (b || w) ≤ wht h0 h * (17 * (lst h0).length + 8) + 17 * g.2.1.length + ovP h0 b := by
 have f : FormP h := by rw [e]; exact f0.pn S
 have sf := s.facts f
 have less : v.1 = 2 → okA h v.2.1 = true → bk h v.2.1 = false → wht h0 h' * (17 * (lst h0).length + 8) + (17 * (lst h0).length + 8) ≤ wht h0 h * (17 * (lst h0).length + 8) ∧ 1 ≤ (lst h0).length := by
  intro h1 h2 h3
  have hm : v.2.1 ∈ lst h0 := (mem_lst f0).2 (by rw [← okA_pn f0 S, ← e]; exact h2)
  have : wht h0 h' + 1 ≤ wht h0 h := by
   refine countP_lt (fun x _ hx => ?_) hm (by rw [h3]; rfl) (by rw [sf.now h1 h2]; rfl)
   cases hb : bk h x with
   | false => rfl
   | true => rw [sf.up x hb] at hx; cases hx
  have h5 := Nat.mul_le_mul_right (17 * (lst h0).length + 8) this
  rw [Nat.add_mul, Nat.one_mul] at h5
  exact ⟨h5, List.length_pos_of_mem hm⟩
 cases s with
 | none h1 => rw [Bool.or_false]; exact Nat.le_refl _
 | push h1 h2 h3 h4 h5 =>
  obtain ⟨h6, h7⟩ := less h1 h2 h3
  rw [Bool.or_false]
  simp only [List.length_append, List.length_singleton]
  omega
 | full h1 h2 h3 =>
  obtain ⟨h6, h7⟩ := less h1 h2 h3
  rw [Bool.or_true]
  unfold ovP
  rw [if_pos rfl]
  split <;> omega
theorem hnd_hand {h0 h : Heap} (f0 : FormP h0) {S : Int → Bool} (e : h = pn h0 S) (g : Grey) (bs : List Grey) (rs : List Val) (c : Int) (v : Bool) (a : Int) : pot h0 h (hand h (g, bs, rs, -1, 0, c, v, ()) a) ≤ pot h0 h (g, bs, rs, -1, 0, c, v, ()) + 15 := by
 rcases hand_cases h g bs rs c v a with ⟨h1, h2, e'⟩ | ⟨_, e'⟩
 ·rw [e']
  rw [e, okA_pn f0] at h1
  have := og_rng f0 h1
  have e2 : cnt h0 a = (og h0 a).1.2.2.2.1 := rfl
  have : hndP h0 a 0 ≤ 15 := by
   unfold hndP
   split <;> omega
  show wht h0 h * (17 * (lst h0).length + 8) + ovP h0 v + curP h0 c + rs.length + 17 * nit (g, bs, rs, -1, 0, c, v, ()) + hndP h0 a 0 ≤ wht h0 h * (17 * (lst h0).length + 8) + ovP h0 v + curP h0 c + rs.length + 17 * nit (g, bs, rs, -1, 0, c, v, ()) + hndP h0 (-1) 0 + 15
  omega
 ·rw [e']; omega
theorem Stp.pot {h0 h h' : Heap} (f0 : FormP h0) {S : Int → Bool} (e : h = pn h0 S) {m m' : MarkT} (s : Stp h m h' m') : pot h0 h' m' + 1 ≤ pot h0 h m := by
 have f : FormP h := by rw [e]; exact f0.pn S
 cases s with
 | @fld g g' bs rs o i c v w h' ho he s =>
  have sp := s.pot f0 e v
  rw [e, fe_pn f0] at he
  obtain ⟨q1, q2, q3⟩ := fe_ok he
  have hc : cnt h o = cnt h0 o := by rw [e]; exact cnt_pnA f0 S q1
  have : hndP h0 (if cnt h o ≤ i + 1 then -1 else o) (if cnt h o ≤ i + 1 then 0 else i + 1) + 1 ≤ hndP h0 o i := by
   unfold hndP
   rw [hc, if_neg ho]
   by_cases hl : cnt h0 o ≤ i + 1
   ·rw [if_pos hl, if_pos hl, if_pos rfl]; omega
   ·rw [if_neg hl, if_neg hl, if_neg ho]; omega
  show wht h0 h' * (17 * (lst h0).length + 8) + ovP h0 (v || w) + curP h0 c + rs.length + 17 * (g'.2.1.length + (bs.map fun g => g.2.1.length).sum) + hndP h0 (if cnt h o ≤ i + 1 then -1 else o) (if cnt h o ≤ i + 1 then 0 else i + 1) + 1 ≤ wht h0 h * (17 * (lst h0).length + 8) + ovP h0 v + curP h0 c + rs.length + 17 * (g.2.1.length + (bs.map fun g => g.2.1.length).sum) + hndP h0 o i
  omega
 | @pop r l a bs rs c v =>
  have := hnd_hand f0 e (r, l, ()) bs rs c v a
  have e2 : Go.Proofs.YtbkjmefhenpmlaaGreatDoor.Den.pot h0 h ((r, l ++ [a], ()), bs, rs, -1, 0, c, v, ()) = Go.Proofs.YtbkjmefhenpmlaaGreatDoor.Den.pot h0 h ((r, l, ()), bs, rs, -1, 0, c, v, ()) + 17 := by
   simp only [Go.Proofs.YtbkjmefhenpmlaaGreatDoor.Den.pot, nit, List.length_append, List.length_singleton]
   omega
  omega
 | @row g xs ys r l a rs c v =>
  have := hnd_hand f0 e g (xs ++ (r, l, ()) :: ys) rs c v a
  have e2 : Go.Proofs.YtbkjmefhenpmlaaGreatDoor.Den.pot h0 h (g, xs ++ (r, l ++ [a], ()) :: ys, rs, -1, 0, c, v, ()) = Go.Proofs.YtbkjmefhenpmlaaGreatDoor.Den.pot h0 h (g, xs ++ (r, l, ()) :: ys, rs, -1, 0, c, v, ()) + 17 := by
   simp only [Go.Proofs.YtbkjmefhenpmlaaGreatDoor.Den.pot, nit, List.map_append, List.map_cons, List.sum_append, List.sum_cons, List.length_append, List.length_singleton]
   omega
  omega
 | @root g g' bs x rs c v w h' s =>
  have sp := s.pot f0 e v
  show wht h0 h' * (17 * (lst h0).length + 8) + ovP h0 (v || w) + curP h0 c + rs.length + 17 * (g'.2.1.length + (bs.map fun g => g.2.1.length).sum) + hndP h0 (-1) 0 + 1 ≤ wht h0 h * (17 * (lst h0).length + 8) + ovP h0 v + curP h0 c + (x :: rs).length + 17 * (g.2.1.length + (bs.map fun g => g.2.1.length).sum) + hndP h0 (-1) 0
  rw [List.length_cons]
  omega
 | @cur g bs rs c v a hc ha hb hx =>
  have h1 := hnd_hand f0 e g bs rs (a + 1) v a
  have h0' := (fndB_rng (og_ok (bk_ok hb)).1).1
  have hm : a ∈ lst h0 := (mem_lst f0).2 (by rw [← okA_pn f0 S, ← e]; exact bk_ok hb)
  have h2 : ((lst h0).countP fun x => decide (a + 1 ≤ x)) + 1 ≤ (lst h0).countP fun x => decide (c ≤ x) := by
   refine countP_lt (fun x _ hx => ?_) hm (decide_eq_true ha) (decide_eq_false (by omega))
   have hx := of_decide_eq_true hx
   exact decide_eq_true (by omega)
  have e2 : Go.Proofs.YtbkjmefhenpmlaaGreatDoor.Den.pot h0 h (g, bs, rs, -1, 0, a + 1, v, ()) + 17 ≤ Go.Proofs.YtbkjmefhenpmlaaGreatDoor.Den.pot h0 h (g, bs, rs, -1, 0, c, v, ()) := by
   show wht h0 h * (17 * (lst h0).length + 8) + ovP h0 v + curP h0 (a + 1) + rs.length + 17 * nit (g, bs, rs, -1, 0, c, v, ()) + hndP h0 (-1) 0 + 17 ≤ wht h0 h * (17 * (lst h0).length + 8) + ovP h0 v + curP h0 c + rs.length + 17 * nit (g, bs, rs, -1, 0, c, v, ()) + hndP h0 (-1) 0
   have n1 : ¬ a + 1 = -1 := by omega
   unfold curP
   rw [if_neg n1, if_neg hc]
   omega
  omega
 | @noc g bs rs c v hc hx =>
  show wht h0 h * (17 * (lst h0).length + 8) + ovP h0 v + curP h0 (-1) + rs.length + 17 * nit (g, bs, rs, -1, 0, c, v, ()) + hndP h0 (-1) 0 + 1 ≤ wht h0 h * (17 * (lst h0).length + 8) + ovP h0 v + curP h0 c + rs.length + 17 * nit (g, bs, rs, -1, 0, c, v, ()) + hndP h0 (-1) 0
  unfold curP
  rw [if_pos rfl, if_neg hc]
  omega
 | @ovr g bs rs =>
  have h1 : ((lst h0).countP fun x => decide ((0 : Int) ≤ x)) ≤ (lst h0).length := List.countP_le_length
  show wht h0 h * (17 * (lst h0).length + 8) + ovP h0 false + curP h0 0 + rs.length + 17 * nit (g, bs, rs, -1, 0, 0, false, ()) + hndP h0 (-1) 0 + 1 ≤ wht h0 h * (17 * (lst h0).length + 8) + ovP h0 true + curP h0 (-1) + rs.length + 17 * nit (g, bs, rs, -1, 0, 0, false, ()) + hndP h0 (-1) 0
  unfold curP ovP
  rw [if_pos rfl, if_neg (by decide), if_pos rfl, if_neg (by decide)]
  omega
def bnd (h : Heap) (m : MarkT) : Nat := ((lst h).length + 3) * (17 * (lst h).length + 8) + m.2.2.1.length + 17 * nit m + 20
theorem pot_le {h0 h : Heap} (f0 : FormP h0) {S : Int → Bool} (e : h = pn h0 S) {m : MarkT} (p : MkP h m) : pot h0 h m ≤ bnd h0 m := by
 have h1 : wht h0 h ≤ (lst h0).length := List.countP_le_length
 have h2 := Nat.mul_le_mul_right (17 * (lst h0).length + 8) h1
 have h3 : ovP h0 m.2.2.2.2.2.2.1 ≤ 17 * (lst h0).length + 2 := by unfold ovP; split <;> omega
 have h4 : curP h0 m.2.2.2.2.2.1 ≤ 1 + 17 * (lst h0).length := by
  have : ((lst h0).countP fun x => decide (m.2.2.2.2.2.1 ≤ x)) ≤ (lst h0).length := List.countP_le_length
  unfold curP; split <;> omega
 have h5 : hndP h0 m.2.2.2.1 m.2.2.2.2.1 ≤ 15 := by
  unfold hndP
  split
  ·omega
  ·rename_i hn
   have he := p.ob.resolve_left fun h => hn h.1
   rw [e, fe_pn f0] at he
   obtain ⟨q1, q2, q3⟩ := fe_ok he
   have := (og_rng f0 q1).2.2.2.2
   have e2 : cnt h0 m.2.2.2.1 = (og h0 m.2.2.2.1).1.2.2.2.1 := rfl
   omega
 unfold pot bnd
 rw [Nat.add_mul]
 omega
end Go.Proofs.YtbkjmefhenpmlaaGreatDoor.Den
/- The pure law TakeTakes. -/
namespace Go.Proofs.YtbkjmefhenpmlaaGreatDoor.Den
open Go
set_option linter.unusedVariables false
set_option linter.unusedSimpArgs false
set_option maxRecDepth 100000
end Go.Proofs.YtbkjmefhenpmlaaGreatDoor.Den
/- Pure laws: what deeds keep of a heap and a list of its objects. -/
namespace Go.Proofs.YtbkjmefhenpmlaaGreatDoor.Den
open Go
set_option linter.unusedVariables false
set_option linter.unusedSimpArgs false
set_option maxRecDepth 100000
def blkS (s : Span) (a : Int) : Int := a % 32 / cw s.2.1
def freeS (s : Span) (a : Int) : Prop := s.1 ≠ 0 ∧ a % cw s.2.1 = 0 ∧ giveP s (blkS s a)
theorem freeP_iff {h : Heap} {a : Int} : freeP h a ↔ 0 ≤ a ∧ a < 32 * h.2.1.length ∧ freeS (spanOf h a) a := by
 unfold freeP fndB freeS blkI blkS
 rw [decide_eq_true_iff]
 exact ⟨fun ⟨⟨a, b, c, d⟩, e⟩ => ⟨a, b, c, d, e⟩, fun ⟨a, b, c, d, e⟩ => ⟨⟨a, b, c, d⟩, e⟩⟩
theorem freeS_sz (a : Int) : ¬ freeS sz a := fun h => h.1 rfl
def szOf (h : Heap) (a : Int) : Int := cw (spanOf h a).2.1
def sumI : List Int → Int
 | [] => 0
 | a :: l => a + sumI l
structure Inv (n : Nat) (h : Heap) (l : List Int) : Prop where
 hp : HP h
 len : h.2.1.length = n
 nd : l.Nodup
 mem : ∀ a, a ∈ l ↔ freeP h a
 hdr : ∀ a ∈ l, ∃ b k, 0 ≤ k ∧ k < szOf h a ∧ h.1.getD a.toNat 0 = hword (spanOf h a).2.1 b k
 nz : ∀ j : Nat, h.1.getD j 0 ≠ 0 → (j : Int) ∈ l
 sum : usedN h = sumI (l.map (szOf h))
theorem getD_set_ne {α : Type} {l : List α} {i j : Nat} (h : i ≠ j) (x z : α) : (l.set i x).getD j z = l.getD j z := by
 simp only [List.getD, List.getElem?_set, if_neg h]
theorem zer_getD {ws : List Int} {a k : Nat} (h : a + k ≤ ws.length) (j : Nat) : (zer ws a k).getD j 0 = if a ≤ j ∧ j < a + k then 0 else ws.getD j 0 := by
 simp only [List.getD, zer_get h]
 split <;> rfl
end Go.Proofs.YtbkjmefhenpmlaaGreatDoor.Den
/- Pure laws: what is behind a block that was taken. -/
namespace Go.Proofs.YtbkjmefhenpmlaaGreatDoor.Den
open Go
set_option linter.unusedVariables false
set_option linter.unusedSimpArgs false
set_option maxRecDepth 100000
def fresh (p : Nat) : Heap := (List.replicate (32 * p) 0, List.replicate p sz, false, ())
theorem good_span_of {s : Span} (hr : rightB s = true) (h0 : 0 ≤ s.2.2.1) : Good cSpan s := by
 have hf := rightB_free hr h0
 have h1 : -9223372036854775808 ≤ s.1 ∧ s.1 ≤ 9223372036854775807 ∧ -9223372036854775808 ≤ s.2.1 ∧ s.2.1 ≤ 9223372036854775807 := by
  by_cases hs : s.1 = 0
  ·rw [right_free hr hs]; decide
  ·have := right_use hr hs; omega
 exact ⟨⟨h1.1, h1.2.1⟩, ⟨h1.2.2.1, h1.2.2.2⟩, ⟨h0, by show s.2.2.1 ≤ 4294967295; omega⟩, trivial⟩
theorem inv_fresh {n : Nat} (h1 : 1 ≤ n) (h2 : n ≤ 16) : Inv n (fresh n) [] := by
 have hsp : ∀ s ∈ (fresh n).2.1, s = sz := fun s hs => (List.mem_replicate.1 hs).2
 have hlen : (fresh n).2.1.length = n := List.length_replicate
 have hq : HP (fresh n) := by
  refine ⟨⟨by omega, by omega, ?_, fun s hs => by rw [hsp s hs]; exact right_sz, fun w hw => ?_⟩, fun s hs => ?_⟩
  ·rw [hlen]; exact List.length_replicate
  ·rw [(List.mem_replicate.1 hw).2]; omega
  ·rw [hsp s hs]; show (0 : Int) ≤ 0; omega
 have hgd : ∀ k, (fresh n).2.1.getD k sz = sz := fun k => by
  show (List.replicate n sz).getD k sz = sz
  simp only [List.getD, List.getElem?_replicate]
  split <;> rfl
 refine ⟨hq, hlen, List.nodup_nil, fun a => ?_, fun a ha => (by cases ha), fun j hj => ?_, ?_⟩
 ·refine ⟨fun h => (by cases h), fun hf => ?_⟩
  have := (freeP_iff.1 hf).2.2
  unfold spanOf at this
  rw [hgd] at this
  exact absurd this (freeS_sz a)
 ·exfalso; apply hj
  show (List.replicate (32 * n) (0 : Int)).getD j 0 = 0
  simp only [List.getD, List.getElem?_replicate]
  split <;> rfl
 ·have : ∀ k, usN (fresh n) k = 0 := by
   intro k
   induction k with
   | zero => rfl
   | succ k ih => simp only [usN, ih, hgd, us1_sz]; rfl
  exact this _
end Go.Proofs.YtbkjmefhenpmlaaGreatDoor.Den
/- Pure laws: worlds that the marker's turns lead to; within how many turns a cycle ends. -/
namespace Go.Proofs.YtbkjmefhenpmlaaGreatDoor.Den
open Go
set_option linter.unusedVariables false
set_option linter.unusedSimpArgs false
set_option maxRecDepth 100000
theorem hp_good {h : Heap} (q : HP h) : Good cHeap h := by
 have hn := q.f.n16
 have hl := q.f.len
 refine ⟨⟨by omega, fun w hw => ?_⟩, ⟨by omega, fun s hs => good_span_of (q.f.right s hs) (q.fr s hs)⟩, trivial, trivial⟩
 obtain ⟨a, b⟩ := q.f.word w hw
 have hh : ∀ x : Int, x < 18446744073709551616 → x ≤ 18446744073709551615 := fun x h => by omega
 exact ⟨a, hh w b⟩
theorem hp_formB {h : Heap} (q : HP h) : formB h = true := by
 unfold formB
 rw [Bool.and_eq_true, decide_eq_true_iff, List.all_eq_true]
 exact ⟨⟨q.f.n1, q.f.n16, q.f.len⟩, q.f.right⟩
theorem hp_turn {h : Heap} (q : HP h) : HP (turnS h) := ⟨q.f.turn, q.fr⟩
theorem hp_pn {h : Heap} (q : HP h) (S : Int → Bool) : HP (pn h S) := ⟨q.f.pn S, q.fr⟩
theorem right_open {s : Span} {k : Int} (hk : k = 1 ∨ k = 2) (h : rightB s = true) (e : s.1 ≠ 0) : rightB (k, s.2) = true := by
 unfold rightB at h ⊢
 rw [if_neg e] at h
 rw [if_neg (show ¬ ((k, s.2) : Span).1 = 0 from by show ¬ k = 0; omega)]
 simp only [decide_eq_true_eq] at h ⊢
 exact ⟨hk, h.2⟩
theorem hp_beg {h : Heap} (q : HP h) : HP (begS h) := by
 refine ⟨⟨?_, ?_, ?_, fun s hs => ?_, q.f.word⟩, fun s hs => ?_⟩
 ·show 1 ≤ (h.2.1.map dirtS).length
  rw [List.length_map]; exact q.f.n1
 ·show (h.2.1.map dirtS).length ≤ 16
  rw [List.length_map]; exact q.f.n16
 ·show h.1.length = 32 * (h.2.1.map dirtS).length
  rw [List.length_map]; exact q.f.len
 ·obtain ⟨r, hr, rfl⟩ := List.mem_map.1 hs
  have h1 := q.f.right r hr
  unfold dirtS
  split
  ·rename_i e
   exact right_open (.inr rfl) h1 (by rw [e]; decide)
  ·exact h1
 ·obtain ⟨r, hr, rfl⟩ := List.mem_map.1 hs
  have h1 := q.fr r hr
  unfold dirtS
  split <;> exact h1
theorem oneG_setSp {h : Heap} (q : HP h) {c : List (List Int)} {p : Nat} (hp : p < h.2.1.length) (hd : (h.2.1.getD p sz).1 = 2) :
  ∃ s : Span, rightB s = true ∧ 0 ≤ s.2.2.1 ∧ oneG h c p = setSp (swF h p (pgN h p)).1 (p : Int) s ∧ s.1 ≠ 2 ∧ (keptP c p → s.1 ≠ 0 ∧ s.2.1 = (h.2.1.getD p sz).2.1) := by
 obtain ⟨I, -, -⟩ := swF_ok q p (pgN h p)
 have hg : ((swF h p (pgN h p)).1.2.1.getD p sz) ∈ (swF h p (pgN h p)).1.2.1 := by
  have hl := I.sl
  rw [get_d _ _ _ (show p < (swF h p (pgN h p)).1.2.1.length by omega)]
  exact List.getElem_mem _
 obtain ⟨c1, c2⟩ := I.cl p
 unfold oneG
 split
 ·rename_i hh
  exact ⟨sz, right_sz, by show (0 : Int) ≤ 0; omega, by rw [← I.c]; rfl, by decide, fun hk => absurd hk hh.2⟩
 ·refine ⟨(1, ((swF h p (pgN h p)).1.2.1.getD p sz).2), right_open (.inl rfl) (I.hp.f.right _ hg) (by rw [c1, hd]; decide), by have := I.hp.fr _ hg; exact this, by rw [← I.c]; rfl, by show (1 : Int) ≠ 2; decide, fun _ => ⟨by show (1 : Int) ≠ 0; decide, c2⟩⟩
theorem hp_one {h : Heap} (q : HP h) {c : List (List Int)} {p : Nat} (hp : p < h.2.1.length) (hd : (h.2.1.getD p sz).1 = 2) : HP (oneG h c p) := by
 obtain ⟨s, h1, h2, e, -, -⟩ := oneG_setSp (c := c) q hp hd
 rw [e]
 exact hp_setSp (swF_ok q p (pgN h p)).1.hp _ h1 h2
theorem hp_swp {h : Heap} (q : HP h) (c : List (List Int)) : HP (swpH h c) := by
 unfold swpH
 split
 ·exact q
 ·rename_i p e
  obtain ⟨h1, h2, -⟩ := fstD_some e
  exact hp_one q h1 h2
theorem rightP_to {h g : Heap} {c : List (List Int)} (r : RightP h c) (hs : ∀ t, t < 4 * c.length → lin c t ≠ -1 → valid h (lin c t) (t % 4) → valid g (lin c t) (t % 4)) : RightP g c := by
 refine ⟨fun t ht => ?_, r.one⟩
 by_cases e : lin c t = -1
 ·exact .inl e
 ·exact .inr (hs t ht e ((r.v t ht).resolve_left e))
theorem rightP_beg {h : Heap} {c : List (List Int)} (r : RightP h c) : RightP (begS h) c := by
 refine rightP_to r fun t ht hn v => ?_
 obtain ⟨i, v1, v2⟩ := v
 have i0 := i.1
 have i1 := i.2
 have hsp : spanAt (begS h) (lin c t) = dirtS (spanAt h (lin c t)) := by
  show (h.2.1.map dirtS).getD _ sz = dirtS (h.2.1.getD _ sz)
  rw [get_d _ _ _ (by rw [List.length_map]; omega), get_d _ _ _ (show (lin c t).toNat < h.2.1.length by omega), List.getElem_map]
 refine ⟨⟨i0, by show (lin c t) < ((h.2.1.map dirtS).length : Int); rw [List.length_map]; exact i1⟩, ?_, ?_⟩
 ·rw [hsp]
  unfold dirtS
  split
  ·show (2 : Int) ≠ 0
   decide
  ·exact v1
 ·rw [hsp]
  unfold dirtS
  split <;> exact v2
theorem rightP_swp {h : Heap} (q : HP h) {c : List (List Int)} (h4 : Row4 c) (r : RightP h c) : RightP (swpH h c) c := by
 unfold swpH
 split
 ·exact r
 rename_i p e
 obtain ⟨hp, hd, -⟩ := fstD_some e
 obtain ⟨s, h1, h2, e2, -, hk⟩ := oneG_setSp (c := c) q hp hd
 obtain ⟨I, -, -⟩ := swF_ok q p (pgN h p)
 have hsl := I.sl
 rw [e2]
 refine rightP_to r fun t ht hn v => ?_
 obtain ⟨i, v1, v2⟩ := v
 have i0 := i.1
 have i1 := i.2
 have hin : inP (setSp (swF h p (pgN h p)).1 (p : Int) s) (lin c t) := ⟨i0, by show (lin c t) < ((List.set _ _ _).length : Int); rw [List.length_set]; omega⟩
 have hsp : spanAt (setSp (swF h p (pgN h p)).1 (p : Int) s) (lin c t) = if p = (lin c t).toNat then s else (swF h p (pgN h p)).1.2.1.getD (lin c t).toNat sz := by
  show (List.set _ _ _).getD _ sz = _
  rw [getD_set_i, Int.toNat_natCast]
  by_cases e3 : p = (lin c t).toNat
  ·rw [if_pos ⟨e3, by omega⟩, if_pos e3]
  ·rw [if_neg (fun hh => e3 hh.1), if_neg e3]
 refine ⟨hin, ?_, ?_⟩
 ·rw [hsp]
  by_cases e3 : p = (lin c t).toNat
  ·rw [if_pos e3]
   exact (hk ((kept_lin h4 _).2 ⟨t, ht, by omega⟩)).1
  ·rw [if_neg e3, (I.cl _).1]
   exact v1
 ·rw [hsp]
  by_cases e3 : p = (lin c t).toNat
  ·rw [if_pos e3, (hk ((kept_lin h4 _).2 ⟨t, ht, by omega⟩)).2, e3]
   exact v2
  ·rw [if_neg e3, (I.cl _).2]
   exact v2
theorem cnt_map {l : List Span} {k : List Span} (hl : l.length = k.length) (h : ∀ i, (l.getD i sz).1 = (k.getD i sz).1) : (l.countP fun s => decide (s.1 = 2)) = k.countP fun s => decide (s.1 = 2) := by
 have e : l.map (fun s => s.1) = k.map (fun s => s.1) := by
  refine List.ext_getElem (by rw [List.length_map, List.length_map, hl]) fun i h1 h2 => ?_
  rw [List.length_map] at h1 h2
  have := h i
  rw [get_d _ _ _ h1, get_d _ _ _ h2] at this
  rw [List.getElem_map, List.getElem_map]
  exact this
 have f : ∀ l : List Span, (l.countP fun s => decide (s.1 = 2)) = (l.map (fun s => s.1)).countP fun n => decide (n = 2) := fun l => by rw [List.countP_map]; rfl
 rw [f, f, e]
theorem cnt_set : ∀ (l : List Span) (i : Nat) (s : Span), i < l.length → (l.getD i sz).1 = 2 → s.1 ≠ 2 → ((l.set i s).countP fun s => decide (s.1 = 2)) + 1 = l.countP fun s => decide (s.1 = 2)
 | [], _, _, h, _, _ => absurd h (by simp)
 | a :: l, 0, s, _, h1, h2 => by
  have h1 : a.1 = 2 := h1
  rw [List.set_cons_zero, List.countP_cons, List.countP_cons, if_neg (by simpa using h2), if_pos (by simpa using h1)]
 | a :: l, i + 1, s, h, h1, h2 => by
  have := cnt_set l i s (by simpa using h) h1 h2
  rw [List.set_cons_succ, List.countP_cons, List.countP_cons]
  omega
theorem dcnt_swp {h : Heap} (q : HP h) (c : List (List Int)) (hn : dcnt (swpH h c) ≠ 0) : dcnt (swpH h c) + 1 ≤ dcnt h := by
 cases e : fstD h with
 | none =>
  unfold swpH at hn
  rw [e] at hn
  exact absurd (dcnt_zero (fstD_none e)) hn
 | some p =>
  obtain ⟨hp, hd, -⟩ := fstD_some e
  obtain ⟨s, -, -, e2, hs, -⟩ := oneG_setSp (c := c) q hp hd
  obtain ⟨I, -, -⟩ := swF_ok q p (pgN h p)
  have hsl := I.sl
  unfold swpH
  rw [e]
  show dcnt (oneG h c p) + 1 ≤ dcnt h
  rw [e2]
  unfold dcnt setSp
  have h1 := cnt_set (swF h p (pgN h p)).1.2.1 p s (by omega) (by rw [(I.cl p).1]; exact hd) hs
  have h2 := cnt_map hsl (fun i => (I.cl i).1)
  simp only [Int.toNat_natCast]
  omega
theorem dcnt_le {h : Heap} (q : HP h) : dcnt h ≤ 16 := by
 have := q.f.n16
 have : dcnt h ≤ h.2.1.length := List.countP_le_length
 omega
theorem ok_even {h : Heap} (f : FormP h) {n : Nat} (e : okA h n = true) : n % 2 = 0 := by
 obtain ⟨p, i, hp, hs, hi, ha, -⟩ := fnd_blkX f (og_ok e).1
 obtain ⟨w, b, hw, hb, ec, b16, hB⟩ := blk_of f hp
 have B := hB i (by omega)
 have h1 := B.a_
 have h2 : n = 32 * p + i * w := by omega
 rcases B.wb with ⟨rfl, -⟩ | ⟨rfl, -⟩ | ⟨rfl, -⟩ | ⟨rfl, -⟩ <;> omega
theorem lstN_half {h : Heap} (f : FormP h) : ∀ n, (lstN h n).length ≤ (n + 1) / 2
 | 0 => by simp [lstN]
 | n + 1 => by
  have := lstN_half f n
  rw [lstN_succ]
  split
  ·rename_i e
   have := ok_even f e
   rw [List.length_append, List.length_singleton]
   omega
  ·omega
theorem lst_half {h : Heap} (f : FormP h) : (lst h).length ≤ h.1.length / 2 := by
 have h1 := lstN_half f h.1.length
 have h2 := f.len
 unfold lst
 omega
end Go.Proofs.YtbkjmefhenpmlaaGreatDoor.Den
/- Pure laws: the marker's turns end a cycle. -/
namespace Go.Proofs.YtbkjmefhenpmlaaGreatDoor.Den
open Go
set_option linter.unusedVariables false
set_option linter.unusedSimpArgs false
set_option maxRecDepth 100000
structure IW (w : WrldT) : Prop where
 p : HP w.2.1
 ms : MsP w.2.2.1
 hv : ∀ v : Val, v ∈ heldL w.2.2.1 → -9223372036854775808 ≤ v.2.1 ∧ v.2.1 < 9223372036854775808
 h4 : Row4 (cachesW w.2.2.1)
 hc : mayP w.1
 sp : (w.2.1.2.1.length : Int) = w.1.1
 ml : (w.2.2.1.length : Int) = w.1.2.1
 st : w.2.2.1.all (stkB w) = true
 rt : RightP w.2.1 (cachesW w.2.2.1)
 ph : 0 ≤ w.2.2.2.2.1 ∧ w.2.2.2.2.1 ≤ 2
 mkw : w.2.2.2.2.1 = 1 → MkP w.2.1 w.2.2.2.1 ∧ (w.2.2.2.1.2.1.length : Int) = w.2.2.1.length
 mr : MrP w.2.2.2.1
theorem IW.gw {w : WrldT} (I : IW w) : GW w := ⟨hp_good I.p, I.p.f.n16, I.ms, I.mr⟩
theorem IW.form {w : WrldT} (I : IW w) : formW w = true := by
 unfold formW
 simp only [Bool.and_eq_true, decide_eq_true_eq]
 refine ⟨I.hc, hp_formB I.p, I.sp, I.ml, I.ph, I.st, I.rt, ?_⟩
 unfold mkB
 by_cases e : w.2.2.2.2.1 = 1
 ·obtain ⟨m, l⟩ := I.mkw e
  rw [if_pos e, m.rtB, decide_eq_true l]
  rfl
 ·rw [if_neg e]
theorem IW.of {w : WrldT} (F : WF w) (hf : formW w = true) : IW w := by
 unfold formW at hf
 simp only [Bool.and_eq_true, decide_eq_true_eq] at hf
 refine ⟨F.p, F.q.g.ms, F.q.hv, F.h4, F.hc, hf.2.2.1, hf.2.2.2.1, hf.2.2.2.2.2.1, hf.2.2.2.2.2.2.1, F.ph, fun e => ⟨F.hm e, ?_⟩, F.q.g.mr⟩
 have h2 := hf.2.2.2.2.2.2.2
 unfold mkB at h2
 rw [if_pos e] at h2
 simp only [Bool.and_eq_true, decide_eq_true_eq] at h2
 exact h2.2
theorem MkP.mr {h : Heap} {m : MarkT} (f : FormP h) (p : MkP h m) : MrP m := by
 refine ⟨by have := p.g.len; have := p.g.r16; omega, by have := p.bl; omega, fun g hg => by have := (p.b g hg).len; have := (p.b g hg).r16; omega, ?_⟩
 rcases p.ob with ⟨e, -⟩ | e
 ·rw [e]; decide
 ·have hb := (og_ok (fe_ok e).1).1
  have h1 := fndB_rng hb
  have h2 := fnd_room f hb
  have h3 := f.n16
  have h4 := f.len
  omega
theorem hand_bs (h : Heap) (m : MarkT) (a : Int) : (hand h m a).2.1 = m.2.1 := by
 unfold hand
 split <;> rfl
theorem Stp.blen {h h' : Heap} {m m' : MarkT} (s : Stp h m h' m') : m'.2.1.length = m.2.1.length := by
 cases s with
 | fld _ _ _ => rfl
 | pop => rw [hand_bs]
 | row => rw [hand_bs]; simp
 | root _ => rfl
 | cur _ _ _ _ => rw [hand_bs]
 | noc _ _ => rfl
 | ovr => rfl
theorem mk_begin {h : Heap} (f : FormP h) {ms : List MutT} (M : MsP ms) (hv : ∀ v : Val, v ∈ heldL ms → -9223372036854775808 ≤ v.2.1 ∧ v.2.1 < 9223372036854775808) {g b : Int} (g0 : 0 ≤ g) (g1 : g ≤ 16) (b0 : 0 ≤ b) (b1 : b ≤ 16) :
  MkP (turnS h) (markM g b ms.length (heldL ms ++ pendL h ms)) := by
 have hl := heldL_len M.st
 have hp := pendL_len h ms
 have hm := M.len
 refine ⟨⟨g0, g1, g0⟩, fun a ha => (by cases ha), fun x hx => ?_, fun x hx a ha => ?_, ?_, ?_, fun v hv2 => ?_, ?_, .inl ⟨rfl, rfl⟩⟩
 ·have e : x = (b, [], ()) := List.eq_of_mem_replicate hx
  rw [e]
  exact ⟨b0, b1, b0⟩
 ·have e : x = (b, [], ()) := List.eq_of_mem_replicate hx
  rw [e] at ha
  cases ha
 ·show (List.replicate _ _).length ≤ 10
  rw [List.length_replicate]
  exact hm
 ·show (heldL ms ++ pendL h ms).length ≤ 1000
  rw [List.length_append]
  omega
 ·rcases List.mem_append.1 (show v ∈ heldL ms ++ pendL h ms from hv2) with h1 | h1
  ·exact hv v h1
  ·unfold pendL at h1
   obtain ⟨m, -, h2⟩ := List.mem_flatMap.1 h1
   unfold pend1 at h2
   split at h2
   ·rw [List.mem_singleton.1 h2]
    exact fldV_rng f _ _
   ·cases h2
 ·show (-1 : Int) ≤ -1 ∧ (-1 : Int) ≤ _
  omega
theorem nit_begin (g b : Int) (n : Nat) (vs : List Val) : nit (markM g b n vs) = 0 := by
 simp [nit, markM]
def cycN (k : Nat) : Nat := (k + 3) * (17 * k + 8) + 300
def wantN (w : WrldT) : Nat := if w.2.2.2.2.2.1 = true then cycN (w.2.1.1.length / 2) else 0
def Pot (w : WrldT) (n : Nat) : Prop :=
 (w.2.2.2.2.1 = 0 ∧ wantN w ≤ n) ∨ (w.2.2.2.2.1 = 1 ∧ ∃ h0 S, FormP h0 ∧ w.2.1 = pn h0 S ∧ pot h0 w.2.1 w.2.2.2.1 + 20 + wantN w ≤ n) ∨ (w.2.2.2.2.1 = 2 ∧ dcnt w.2.1 + 1 + wantN w ≤ n)
theorem want_eq {w a : WrldT} (h1 : a.2.2.2.2.2.1 = w.2.2.2.2.2.1) (h2 : a.2.1.1.length = w.2.1.1.length) : wantN a = wantN w := by
 unfold wantN
 rw [h1, h2]
theorem IW.turn {w : WrldT} (I : IW w) {n : Nat} (P : Pot w (n + 1)) (hne : ¬ (w.2.2.2.2.1 = 0 ∧ w.2.2.2.2.2.1 = false)) :
  ∃ (a : WrldT) (x : Int), mkrW w = (a, x, ()) ∧ x ≠ 0 ∧ IW a ∧ Pot a n ∧ a.2.2.2.2.2.2.2.1.length ≤ w.2.2.2.2.2.2.2.1.length + 1 := by
 have f := I.p.f
 unfold mkrW
 rcases P with ⟨e, hP⟩ | ⟨e, h0, S, f0, eh, hP⟩ | ⟨e, hP⟩
 ·have hw : w.2.2.2.2.2.1 = true := by
   cases hw : w.2.2.2.2.2.1 with
   | false => exact absurd ⟨e, hw⟩ hne
   | true => rfl
  rw [if_pos e, if_pos hw]
  obtain ⟨c1, c2, c3, c4⟩ := I.hc.2.2.2.2.2.2
  have mb := mk_begin f I.ms I.hv (g := w.1.2.2.2.1) (b := w.1.2.2.2.2.1) c1 c2 c3 (by omega)
  refine ⟨_, _, rfl, by decide, ⟨hp_turn I.p, I.ms, I.hv, I.h4, I.hc, I.sp, I.ml, I.st, rightP_to I.rt fun t _ _ v => v, by show (0 : Int) ≤ 1 ∧ (1 : Int) ≤ 2; decide, fun _ => ⟨mb, ?_⟩, mb.mr f.turn⟩, .inr (.inl ⟨rfl, turnS w.2.1, fun _ => false, f.turn, pn_none.symm, ?_⟩), Nat.le_succ _⟩
  ·show ((List.replicate _ _).length : Int) = _
   rw [List.length_replicate]
  ·have h1 := pot_le f.turn (S := fun _ => false) pn_none.symm mb
   have h2 := lst_half f.turn
   have h3 : (turnS w.2.1).1.length = w.2.1.1.length := rfl
   rw [h3] at h2
   have hl := heldL_len I.ms.st
   have hp := pendL_len w.2.1 w.2.2.1
   have hm := I.ms.len
   unfold wantN cycN at hP
   rw [if_pos hw] at hP
   unfold bnd at h1
   rw [nit_begin] at h1
   have h4 : ((lst (turnS w.2.1)).length + 3) * (17 * (lst (turnS w.2.1)).length + 8) ≤ (w.2.1.1.length / 2 + 3) * (17 * (w.2.1.1.length / 2) + 8) := Nat.mul_le_mul (by omega) (by omega)
   have h5 : (markM w.1.2.2.2.1 w.1.2.2.2.2.1 w.2.2.1.length (heldL w.2.2.1 ++ pendL w.2.1 w.2.2.1)).2.2.1.length = (heldL w.2.2.1).length + (pendL w.2.1 w.2.2.1).length := List.length_append
   show pot (turnS w.2.1) (turnS w.2.1) (markM w.1.2.2.2.1 w.1.2.2.2.2.1 w.2.2.1.length (heldL w.2.2.1 ++ pendL w.2.1 w.2.2.1)) + 20 + (if false = true then _ else 0) ≤ n
   rw [if_neg (by decide)]
   omega
 ·rw [if_neg (by omega), if_pos e]
  obtain ⟨mp, ml⟩ := I.mkw e
  rcases stp_cases f mp with ⟨es, -⟩ | ⟨h', m', es, s⟩
  ·rw [es]
   have hb := hp_beg I.p
   have hd := dcnt_le hb
   refine ⟨_, _, if_pos rfl, by decide, ⟨hb, I.ms, I.hv, I.h4, I.hc, ?_, I.ml, I.st, rightP_beg I.rt, by show (0 : Int) ≤ 2 ∧ (2 : Int) ≤ 2; decide, fun h => absurd h (by show ¬ (2 : Int) = 1; decide), ⟨by show (0 : Nat) ≤ _; omega, by show (0 : Nat) ≤ _; omega, fun g hg => (by cases hg), by show (-9223372036854775808 : Int) ≤ 0 ∧ (0 : Int) < 9223372036854775808; decide⟩⟩, .inr (.inr ⟨rfl, ?_⟩), ?_⟩
   ·show ((w.2.1.2.1.map dirtS).length : Int) = _
    rw [List.length_map]
    exact I.sp
   ·show dcnt (begS w.2.1) + 1 + wantN w ≤ n
    omega
   ·show (w.2.2.2.2.2.2.2.1 ++ [tellW w]).length ≤ _
    rw [List.length_append, List.length_singleton]
    omega
  ·rw [es]
   obtain ⟨T, eT⟩ := s.paint
   have hp := s.pot f0 eh
   have mk := s.mk f mp
   have bl := s.blen
   subst eT
   have hb := hp_pn I.p T
   refine ⟨_, _, if_neg (by simp), by decide, ⟨hb, I.ms, I.hv, I.h4, I.hc, I.sp, I.ml, I.st, rightP_to I.rt fun t _ _ v => v, I.ph, fun _ => ⟨mk, by rw [← ml, ← bl]⟩, mk.mr hb.f⟩, .inr (.inl ⟨e, h0, _, f0, by show pn w.2.1 T = _; rw [eh, pn_pn f0], ?_⟩), Nat.le_succ _⟩
   have hw := want_eq (w := w) (a := (w.1, pn w.2.1 T, w.2.2.1, m', w.2.2.2.2)) rfl (pn_len _ _)
   show pot h0 (pn w.2.1 T) m' + 20 + wantN (w.1, pn w.2.1 T, w.2.2.1, m', w.2.2.2.2) ≤ n
   omega
 ·rw [if_neg (by omega), if_neg (by omega), if_pos e]
  obtain ⟨l1, l2⟩ := swpH_len I.p (cachesW w.2.2.1)
  have hb := hp_swp I.p (cachesW w.2.2.1)
  have rt := rightP_swp I.p I.h4 I.rt
  unfold swpW
  rw [if_pos e]
  by_cases hd : dcnt (swpH w.2.1 (cachesW w.2.2.1)) = 0
  ·rw [if_pos hd]
   refine ⟨_, _, rfl, by decide, ⟨hb, I.ms, I.hv, I.h4, I.hc, by rw [l1]; exact I.sp, I.ml, I.st, rt, by show (0 : Int) ≤ 0 ∧ (0 : Int) ≤ 2; decide, fun h => absurd h (by show ¬ (0 : Int) = 1; decide), I.mr⟩, .inl ⟨rfl, ?_⟩, Nat.le_succ _⟩
   have hw := want_eq (w := w) (a := (w.1, swpH w.2.1 (cachesW w.2.2.1), w.2.2.1, w.2.2.2.1, 0, w.2.2.2.2.2)) rfl l2
   omega
  ·rw [if_neg hd]
   have h3 := dcnt_swp I.p _ hd
   refine ⟨_, _, rfl, by decide, ⟨hb, I.ms, I.hv, I.h4, I.hc, by rw [l1]; exact I.sp, I.ml, I.st, rt, I.ph, fun h => absurd (show w.2.2.2.2.1 = 1 from h) (by omega), I.mr⟩, .inr (.inr ⟨e, ?_⟩), Nat.le_succ _⟩
   have hw := want_eq (w := w) (a := (w.1, swpH w.2.1 (cachesW w.2.2.1), w.2.2)) rfl l2
   show dcnt (swpH w.2.1 (cachesW w.2.2.1)) + 1 + wantN (w.1, swpH w.2.1 (cachesW w.2.2.1), w.2.2) ≤ n
   omega
end Go.Proofs.YtbkjmefhenpmlaaGreatDoor.Den
/- Pure laws: of a filled heap what is used is the sum of its objects' words. -/
namespace Go.Proofs.YtbkjmefhenpmlaaGreatDoor.Den
open Go
set_option linter.unusedVariables false
set_option linter.unusedSimpArgs false
set_option maxRecDepth 100000
def FilP (h : Heap) : Prop := ∀ p i : Nat, p < h.2.1.length → stP h p ≠ 0 → i < pgN h p → okA h (blA h p i) = !freB h p i ∧ (okA h (blA h p i) = true → (og h (blA h p i)).1.2.2.1 = (h.2.1.getD p sz).2.1)
theorem okA_zero0 {h : Heap} {a : Int} (hz0 : h.1.getD a.toNat 0 = 0) : okA h a = false := by
 unfold okA og
 rw [hz0, show hok 0 = false by decide]
 simp only [Bool.and_false, Bool.false_and, Bool.false_eq_true, if_false]
end Go.Proofs.YtbkjmefhenpmlaaGreatDoor.Den
/- Pure laws: a block freed: what is left. -/
namespace Go.Proofs.YtbkjmefhenpmlaaGreatDoor.Den
open Go
set_option linter.unusedVariables false
set_option linter.unusedSimpArgs false
set_option maxRecDepth 100000
structure BlkF (g : Heap) (p i w : Nat) : Prop where
 hp : p < g.2.1.length
 hs : stP g p ≠ 0
 hi : i < pgN g p
 w_ : pgW g p = w
 cw_ : cw (g.2.1.getD p sz).2.1 = w
 cb_ : cb (g.2.1.getD p sz).2.1 = pgN g p
 a_ : blA g p i = 32 * p + i * w
 in_ : i * w + w ≤ 32
 wb : w = 2 ∨ w = 4 ∨ w = 8 ∨ w = 16
 le : pgN g p ≤ 16
theorem blkF_of {g : Heap} (f : FormP g) {p i : Nat} (hp : p < g.2.1.length) (hs : stP g p ≠ 0) (hi : i < pgN g p) : ∃ w, BlkF g p i w := by
 obtain ⟨w, b, hw, hb, ec, b16, hB⟩ := blk_of f hp
 have B := hB i (by omega)
 refine ⟨w, hp, hs, hi, hw, B.cw_, by rw [ec, hb], B.a_, B.in_, ?_, by omega⟩
 rcases B.wb with ⟨e, -⟩ | ⟨e, -⟩ | ⟨e, -⟩ | ⟨e, -⟩ <;> omega
theorem blk_page {g : Heap} {p i w : Nat} (B : BlkF g p i w) : (((blA g p i : Nat) : Int) / 32).toNat = p := by
 have h1 := B.a_
 have h2 := B.in_
 rcases B.wb with rfl | rfl | rfl | rfl <;> omega
theorem blk_span {g : Heap} {p i w : Nat} (B : BlkF g p i w) : spanOf g (blA g p i) = g.2.1.getD p sz := by
 unfold spanOf
 rw [blk_page B]
theorem blk_idx {g : Heap} {p i w : Nat} (B : BlkF g p i w) : (blkI g (blA g p i)).toNat = i ∧ blkI g (blA g p i) = i := by
 have h1 := B.a_
 have h2 := B.in_
 unfold blkI
 rw [blk_span B, B.cw_]
 rcases B.wb with rfl | rfl | rfl | rfl <;> omega
theorem freed_blk {g : Heap} {p i w : Nat} (B : BlkF g p i w) : freed g (blA g p i) = (zer g.1 (blA g p i) w, g.2.1.set p ((g.2.1.getD p sz).1, (g.2.1.getD p sz).2.1, xr (g.2.1.getD p sz).2.2.1 i, ()), g.2.2) := by
 unfold freed
 rw [blk_span B, blk_page B, (blk_idx B).1, B.cw_]
 rfl
theorem freed_span {g : Heap} {p i w : Nat} (B : BlkF g p i w) (r : Nat) : (freed g (blA g p i)).2.1.getD r sz = if p = r then ((g.2.1.getD p sz).1, (g.2.1.getD p sz).2.1, xr (g.2.1.getD p sz).2.2.1 i, ()) else g.2.1.getD r sz := by
 have hp := B.hp
 rw [freed_blk B]
 show (List.set _ _ _).getD _ _ = _
 rw [getD_set_i]
 by_cases e : p = r
 ·rw [if_pos ⟨e, by omega⟩, if_pos e]
 ·rw [if_neg (fun hh => e hh.1), if_neg e]
theorem freed_cl {g : Heap} {p i w : Nat} (B : BlkF g p i w) (r : Nat) : ((freed g (blA g p i)).2.1.getD r sz).1 = (g.2.1.getD r sz).1 ∧ ((freed g (blA g p i)).2.1.getD r sz).2.1 = (g.2.1.getD r sz).2.1 := by
 rw [freed_span B]
 split
 ·rename_i e
  rw [← e]
  exact ⟨rfl, rfl⟩
 ·exact ⟨rfl, rfl⟩
theorem freed_fnd {g : Heap} {p i w : Nat} (B : BlkF g p i w) (b : Int) : fndB (freed g (blA g p i)) b = fndB g b := by
 obtain ⟨h1, h2⟩ := freed_cl B (b / 32).toNat
 have hl : (freed g (blA g p i)).2.1.length = g.2.1.length := by rw [freed_blk B]; exact List.length_set
 unfold fndB spanOf
 rw [h1, h2, hl]
theorem og_else {g : Heap} {b : Int} (e : okA g b = false) : og g b = (hz, false, ()) := by
 unfold okA og at *
 split at e
 ·cases e
 ·rename_i h
  rw [if_neg h]
theorem og_fnd {g g' : Heap} {b : Int} (h1 : fndB g' b = fndB g b) (h2 : fndB g b = true → g'.1.getD b.toNat 0 = g.1.getD b.toNat 0) : og g' b = og g b := by
 cases e : fndB g b with
 | false =>
  unfold og
  rw [h1, e]
  simp only [Bool.false_and, Bool.false_eq_true, if_false]
 | true =>
  unfold og
  rw [h1, h2 e]
theorem freed_og {g : Heap} (q : HP g) {p i w : Nat} (B : BlkF g p i w) (b : Int) : og (freed g (blA g p i)) b = if b = blA g p i then (hz, false, ()) else og g b := by
 have ha := B.a_
 have hin := B.in_
 have hl := q.f.len
 have hp := B.hp
 have hw : ∀ j, (freed g (blA g p i)).1.getD j 0 = if blA g p i ≤ j ∧ j < blA g p i + w then 0 else g.1.getD j 0 := fun j => by
  rw [freed_blk B]
  exact zer_getD (by omega) j
 have w0 : 0 < w := by rcases B.wb with rfl | rfl | rfl | rfl <;> decide
 by_cases e : b = blA g p i
 ·rw [if_pos e]
  refine og_else (okA_zero0 ?_)
  rw [e, hw, Int.toNat_natCast, if_pos ⟨Nat.le_refl _, by omega⟩]
 ·rw [if_neg e]
  refine og_fnd (freed_fnd B b) fun hb => ?_
  rw [hw, if_neg]
  rintro ⟨c1, c2⟩
  obtain ⟨p', i', hp', hs', hi', hb', -⟩ := fnd_blkX q.f hb
  obtain ⟨w', B'⟩ := blkF_of q.f hp' hs' hi'
  have ha' := B'.a_
  have hin' := B'.in_
  have e2 : p' = p := by omega
  subst e2
  have e3 : w' = w := by have := B.w_; have := B'.w_; omega
  subst e3
  have e4 : i' = i := by rcases B.wb with rfl | rfl | rfl | rfl <;> omega
  subst e4
  exact e hb'.symm
theorem freed_fil {g : Heap} (q : HP g) (F : FilP g) {p i w : Nat} (B : BlkF g p i w) (hu : freB g p i = false) : FilP (freed g (blA g p i)) := by
 intro r k hr hs hk
 have hl : (freed g (blA g p i)).2.1.length = g.2.1.length := by rw [freed_blk B]; exact List.length_set
 obtain ⟨c1, c2⟩ := freed_cl B r
 have hst : stP (freed g (blA g p i)) r = stP g r := c1
 have hpn : pgN (freed g (blA g p i)) r = pgN g r := by unfold pgN; rw [c2]
 have hbl : blA (freed g (blA g p i)) r k = blA g r k := by
  show 32 * r + k * (cw ((freed g (blA g p i)).2.1.getD r sz).2.1).toNat = _
  rw [c2]
  rfl
 rw [hl] at hr
 rw [hst] at hs
 rw [hpn] at hk
 obtain ⟨f1, f2⟩ := F r k hr hs hk
 obtain ⟨w', B'⟩ := blkF_of q.f hr hs hk
 have hm : (g.2.1.getD p sz) ∈ g.2.1 := by rw [get_d _ _ _ B.hp]; exact List.getElem_mem _
 have h0 := q.fr _ hm
 have hfre : freB (freed g (blA g p i)) r k = if p = r ∧ k = i then true else freB g r k := by
  unfold freB
  rw [freed_span B]
  by_cases e : p = r
  ·subst e
   rw [if_pos rfl]
   show bit (xr _ _) k = _
   rw [xr_bit h0]
   by_cases e2 : k = i
   ·subst e2
    have hu' : bit (g.2.1.getD p sz).2.2.1 k = false := hu
    rw [if_pos rfl, if_pos ⟨rfl, rfl⟩, hu']
    rfl
   ·rw [if_neg e2, if_neg (fun hh => e2 hh.2)]
  ·rw [if_neg e, if_neg (fun hh => e hh.1)]
 have hne : (p = r ∧ k = i) ∨ (blA g r k : Int) ≠ blA g p i := by
  by_cases e : p = r ∧ k = i
  ·exact .inl e
  ·refine .inr fun h => e ?_
   have a1 := B.a_
   have a2 := B'.a_
   have i1 := B.in_
   have i2 := B'.in_
   have w0 : 0 < w := by rcases B.wb with rfl | rfl | rfl | rfl <;> decide
   have w1 : 0 < w' := by rcases B'.wb with rfl | rfl | rfl | rfl <;> decide
   have e2 : p = r := by omega
   subst e2
   have e3 : w' = w := by have := B.w_; have := B'.w_; omega
   subst e3
   refine ⟨rfl, ?_⟩
   rcases B.wb with rfl | rfl | rfl | rfl <;> omega
 rw [hbl, hfre, c2]
 unfold okA at f1 f2 ⊢
 rw [freed_og q B]
 rcases hne with ⟨rfl, rfl⟩ | hne
 ·rw [if_pos rfl, if_pos ⟨rfl, rfl⟩]
  exact ⟨rfl, fun h => by cases h⟩
 ·rw [if_neg hne, if_neg (fun hh => hne (by rw [← hh.1, hh.2]))]
  exact ⟨f1, f2⟩
end Go.Proofs.YtbkjmefhenpmlaaGreatDoor.Den
/- Pure laws: a page swept: what is left. -/
namespace Go.Proofs.YtbkjmefhenpmlaaGreatDoor.Den
open Go
set_option linter.unusedVariables false
set_option linter.unusedSimpArgs false
set_option maxRecDepth 100000
structure SwR (h g : Heap) : Prop where
 hp : HP g
 fl : FilP g
 wl : g.1.length = h.1.length
 sl : g.2.1.length = h.2.1.length
 c : g.2.2 = h.2.2
 og : ∀ b, og g b = og h b ∨ (og g b = (hz, false, ()) ∧ okA h b = true ∧ bk h b = false)
theorem bk_congr {h g : Heap} {b : Int} (e : og g b = og h b) (c : g.2.2 = h.2.2) : bk g b = bk h b := by
 unfold bk
 rw [e, c]
theorem ok_congr {h g : Heap} {b : Int} (e : og g b = og h b) : okA g b = okA h b := by
 unfold okA
 rw [e]
theorem SwR.refl {h : Heap} (q : HP h) (F : FilP h) : SwR h h := ⟨q, F, rfl, rfl, rfl, fun b => .inl rfl⟩
theorem SwR.trans {h g k : Heap} (R : SwR h g) (S : SwR g k) : SwR h k := by
 refine ⟨S.hp, S.fl, S.wl.trans R.wl, S.sl.trans R.sl, S.c.trans R.c, fun b => ?_⟩
 rcases S.og b with e | ⟨e, e1, e2⟩
 ·rw [e]
  exact R.og b
 ·rcases R.og b with e3 | ⟨e3, -, -⟩
  ·rw [ok_congr e3] at e1
   rw [bk_congr e3 R.c] at e2
   exact .inr ⟨e, e1, e2⟩
  ·unfold okA at e1
   rw [e3] at e1
   cases e1
theorem free_of {g : Heap} (q : HP g) (F : FilP g) {p i w : Nat} (B : BlkF g p i w) (ho : okA g (blA g p i) = true) : freeP g (blA g p i) ∧ freB g p i = false := by
 have hu : freB g p i = false := by
  have := (F p i B.hp B.hs B.hi).1
  rw [ho] at this
  simpa using this.symm
 have hm : (g.2.1.getD p sz) ∈ g.2.1 := by rw [get_d _ _ _ B.hp]; exact List.getElem_mem _
 refine ⟨⟨(og_ok ho).1, ?_⟩, hu⟩
 have hi := B.hi
 rw [blk_span B, (blk_idx B).2]
 exact ⟨(right_use (q.f.right _ hm) B.hs).1, by omega, by rw [B.cb_]; omega, by rw [Int.toNat_natCast]; exact hu⟩
theorem SwR.freed {g : Heap} (q : HP g) (F : FilP g) {p i w : Nat} (B : BlkF g p i w) (ho : okA g (blA g p i) = true) (hb : bk g (blA g p i) = false) : SwR g (freed g (blA g p i)) := by
 obtain ⟨fp, hu⟩ := free_of q F B ho
 have hin := B.in_
 have ha := B.a_
 have hp := B.hp
 have hl := q.f.len
 refine ⟨freed_hp q fp, freed_fil q F B hu, ?_, ?_, by rw [freed_blk B], fun b => ?_⟩
 ·rw [freed_blk B]
  exact zer_len (by omega)
 ·rw [freed_blk B]
  exact List.length_set
 ·rw [freed_og q B]
  by_cases e : b = blA g p i
  ·rw [if_pos e, e]
   exact .inr ⟨rfl, ho, hb⟩
  ·rw [if_neg e]
   exact .inl rfl
end Go.Proofs.YtbkjmefhenpmlaaGreatDoor.Den
/- Pure laws: pages' states turned; a sweep; all sweeps. -/
namespace Go.Proofs.YtbkjmefhenpmlaaGreatDoor.Den
open Go
set_option linter.unusedVariables false
set_option linter.unusedSimpArgs false
set_option maxRecDepth 100000
end Go.Proofs.YtbkjmefhenpmlaaGreatDoor.Den
/- Pure laws: one sweep. -/
namespace Go.Proofs.YtbkjmefhenpmlaaGreatDoor.Den
open Go
set_option linter.unusedVariables false
set_option linter.unusedSimpArgs false
set_option maxRecDepth 100000
end Go.Proofs.YtbkjmefhenpmlaaGreatDoor.Den
/- Pure laws: object.Set and the reference's Set. -/
namespace Go.Proofs.YtbkjmefhenpmlaaGreatDoor.Den
open Go
set_option linter.unusedVariables false
set_option linter.unusedSimpArgs false
set_option maxRecDepth 100000
def mayB (v : Val) : Bool := if v.1 = 0 then decide (v.2.1 = 0) else if v.1 = 1 then decide (v.2.1 ≥ 0) else if v.1 = 2 then decide (v.2.1 ≥ 0) && decide (v.2.1 < 9223372036854775807) else false
def putV (v : Val) : Int := if v.1 = 0 then 0 else if v.1 = 1 then 2 * v.2.1 + 1 else 2 * (v.2.1 + 1)
def stH (h : Heap) (a i : Int) (v : Val) : Heap := (h.1.set (a + 1 + i).toNat (putV v), h.2.1, h.2.2)
theorem fe_okU {h : Heap} {a i : Int} (e : fe h a i = 0) : (og h a).2.1 = true ∧ 0 ≤ i ∧ i < (og h a).1.2.2.2.1 := by
 unfold fe at e
 split at e
 ·split at e
  ·rename_i a b; exact ⟨a, b⟩
  ·cases e
 ·cases e
end Go.Proofs.YtbkjmefhenpmlaaGreatDoor.Den
