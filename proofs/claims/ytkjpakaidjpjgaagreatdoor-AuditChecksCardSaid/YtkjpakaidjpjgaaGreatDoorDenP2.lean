/- Pure laws. -/
import Derived.Test.YtkjpakaidjpjgaaGreatDoorDenP1
import Derived.Test.YtkjpakaidjpjgaaGreatDoorDenFz
/- Pure laws: what is reached. -/
namespace Go.Proofs.YtkjpakaidjpjgaaGreatDoor.Den
open Go
set_option linter.unusedVariables false
set_option linter.unusedSectionVars false
set_option linter.unusedSimpArgs false
set_option maxRecDepth 100000
def refsO (h : Heap) (a : Int) : List Int := rfN h a (cnt h a).toNat
inductive Rch (h : Heap) (vs : List Val) : Int → Prop
 | base {a : Int} : okA h a = true → named vs a = true → Rch h vs a
 | step {a b : Int} : Rch h vs a → b ∈ refsO h a → okA h b = true → Rch h vs b
theorem Rch.ok {h : Heap} {vs : List Val} {a : Int} (r : Rch h vs a) : okA h a = true := by
 cases r with
 | base h _ => exact h
 | step _ _ h => exact h
noncomputable def rchB (h : Heap) (vs : List Val) (a : Int) : Bool := @decide (Rch h vs a) (Classical.propDecidable _)
theorem rchB_iff {h : Heap} {vs : List Val} {a : Int} : rchB h vs a = true ↔ Rch h vs a := by
 unfold rchB
 exact @decide_eq_true_iff _ (Classical.propDecidable _)
theorem named_take (vs : List Val) (k : Nat) (hk : k < vs.length) (a : Int) : named (vs.take (k + 1)) a = (named (vs.take k) a || one vs[k] a) := by
 have : vs.take (k + 1) = vs.take k ++ [vs[k]] := (List.take_append_getElem hk).symm
 unfold named
 rw [this, List.any_append]; simp
def cntT : List Bool → Nat
 | [] => 0
 | b :: l => (bif b then 1 else 0) + cntT l
theorem cntT_le : ∀ l, cntT l ≤ l.length
 | [] => Nat.le_refl _
 | b :: l => by
  have := cntT_le l
  simp only [cntT, List.length_cons]
  cases b <;> simp only [cond_true, cond_false] <;> omega
theorem cntT_mono : ∀ {a b : List Bool}, a.length = b.length → (∀ k, k < a.length → a.getD k false = true → b.getD k false = true) → cntT a ≤ cntT b ∧ (cntT a = cntT b → a = b)
 | [], [], _, _ => ⟨Nat.le_refl _, fun _ => rfl⟩
 | [], y :: b, h, _ => by simp at h
 | x :: a, [], h, _ => by simp at h
 | x :: a, y :: b, hl, h => by
  have ih := cntT_mono (a := a) (b := b) (by simpa using hl) (fun k hk ht => by
   have := h (k + 1) (by simp; omega) (by simpa using ht)
   simpa using this)
  have h0 := h 0 (by simp)
  simp only [List.getD_cons_zero] at h0
  simp only [cntT]
  cases x <;> cases y <;> simp only [cond_true, cond_false] at *
  ·exact ⟨by omega, fun e => by rw [ih.2 (by omega)]⟩
  ·exact ⟨by omega, fun e => by omega⟩
  ·exact absurd (h0 trivial) (by simp)
  ·exact ⟨by omega, fun e => by rw [ih.2 (by omega)]⟩
theorem cntT_full : ∀ {l : List Bool}, cntT l = l.length → ∀ k, k < l.length → l.getD k false = true
 | [], _, k, hk => by simp at hk
 | b :: l, h, k, hk => by
  have := cntT_le l
  simp only [cntT, List.length_cons] at h
  cases b with
  | false => simp only [cond_false] at h; omega
  | true =>
   simp only [cond_true] at h
   cases k with
   | zero => rfl
   | succ k =>
    rw [List.getD_cons_succ]
    exact cntT_full (by omega) k (by simpa using hk)
theorem set_same_d {l : List Bool} {i : Nat} {b : Bool} (h : l.getD i false = b) : l.set i b = l := by
 by_cases hi : i < l.length
 ·rw [get_d _ _ _ hi] at h
  subst h
  exact List.set_getElem_self hi
 ·exact List.set_eq_of_length_le (by omega)
section
variable {h : Heap} {vs : List Val} {L : List Int} (hL : L.length ≤ 512) (hv : vs.length ≤ 1000)
include hL hv
theorem from_l0 {bs : List Bool} (hb : bs.length = L.length) {i : Nat} (hi : i < L.length) (h0 : bs.getD i false = false) :
  r15_From_l0 (vs, i, 0, h, L, bs, ()) = some (.out (vs, (i : Int), h, L, bs.set i (named vs (L.getD i 0)), ())) := by
 unfold r15_From_l0
 refine iterL_run vs.length (fun k => (vs, (i : Int), (k : Int), h, L, bs.set i (named (vs.take k) (L.getD i 0)), ())) (fun k hk => ?_) ?_ (by omega) ?_
 ·have hs : (bs.set i (named (vs.take k) (L.getD i 0))).getD i false = named (vs.take k) (L.getD i 0) := by
   rw [List.getD, List.getElem?_set]; simp [show i < bs.length by omega]
  simp only [r15_From_s0, r15_From_s0r, Bool.cond_decide, ibeq, Int.toNat_natCast, List.length_set, List.set_set, hs]
  rw [if_pos (by omega), if_pos (by omega), if_pos (by omega), wi64_id (by omega) (by omega), named_take vs k hk]
  simp only [show ((0 : Int), (0 : Int), ()) = zv from rfl, get_d vs k zv hk]
  cases hn : named (vs.take k) (L.getD i 0) with
  | true =>
   simp only [cond_true, Bool.true_or]
   repeat rw [if_pos (by omega)]
   rfl
  | false =>
   simp only [cond_false, Bool.false_or]
   have e1 : one vs[k] (L.getD i 0) = (decide (vs[k].1 = 2) && decide (vs[k].2.1 = L.getD i 0)) := rfl
   rw [e1]
   by_cases c : vs[k].1 = 2
   ·repeat rw [if_pos (by omega)]
    rw [decide_eq_true c, Bool.true_and]; rfl
   ·repeat (first | rw [if_pos (by omega)] | rw [if_neg (by omega)])
    rw [decide_eq_false c, Bool.false_and]; rfl
 ·simp only [r15_From_s0, r15_From_s0r, Bool.cond_decide]
  rw [if_neg (by omega), List.take_of_length_le (Nat.le_refl _)]
 ·have : bs.set i (named (vs.take 0) (L.getD i 0)) = bs := set_same_d (by rw [h0]; rfl)
  simp only [this]; rfl
theorem from_l1 : r15_From_l1 (vs, 0, h, L, List.replicate L.length false, ()) = some (.out (h, L, L.map (named vs), ())) := by
 have key : ∃ l, r15_From_l1 (vs, 0, h, L, List.replicate L.length false, ()) = some l ∧ l = .out (h, L, L.map (named vs), ()) := by
  unfold r15_From_l1
  refine iterL_rule (fun m x => ∃ (i : Nat) (bs : List Bool), i ≤ L.length ∧ m = L.length - i ∧ x = (vs, (i : Int), h, L, bs, ()) ∧ bs.length = L.length ∧ (∀ j, j < i → bs.getD j false = named vs (L.getD j 0)) ∧ ∀ j, i ≤ j → bs.getD j false = false) ?_ _ L.length _ (by omega) ⟨0, _, by omega, rfl, rfl, by rw [List.length_replicate], fun j hj => by omega, fun j _ => by
   simp only [List.getD, List.getElem?_replicate]; split <;> rfl⟩
  rintro m x ⟨i, bs, i1, rfl, rfl, hb, h1, h2⟩
  simp only [r15_From_s1, r15_From_s1r, Bool.cond_decide]
  by_cases hi : i < L.length
  ·left
   rw [if_pos (by omega), from_l0 hL hv hb hi (h2 i (Nat.le_refl _)), Option.bind_some]
   dsimp only
   rw [wi64_id (by omega) (by omega)]
   refine ⟨L.length - (i + 1), _, by omega, rfl, i + 1, _, by omega, rfl, rfl, by rw [List.length_set]; exact hb, fun j hj => ?_, fun j hj => ?_⟩
   ·by_cases e : i = j
    ·subst e
     rw [List.getD, List.getElem?_set]; simp [show i < bs.length by omega]
    ·have : (bs.set i (named vs (L.getD i 0))).getD j false = bs.getD j false := by
      simp only [List.getD, List.getElem?_set, if_neg e]
     rw [this]; exact h1 j (by omega)
   ·have : (bs.set i (named vs (L.getD i 0))).getD j false = bs.getD j false := by
     simp only [List.getD, List.getElem?_set, if_neg (show ¬ i = j by omega)]
    rw [this]; exact h2 j (by omega)
  ·right
   refine ⟨_, by rw [if_neg (by omega)], ?_⟩
   have : bs = L.map (named vs) := by
    refine List.ext_getElem (by rw [List.length_map]; exact hb) fun j j1 j2 => ?_
    have := h1 j (by omega)
    rw [get_d _ _ _ j1, get_d _ _ _ (by omega)] at this
    rw [this, List.getElem_map]
   rw [this]
 obtain ⟨l, e, rfl⟩ := key
 exact e
omit hv in
theorem from_l2 (r i : Int) {bs : List Bool} (hb : bs.length = L.length) {rf : List Int} (hr : rf.length ≤ 100) :
  ∃ l, r15_From_l2 (r, i, 0, h, L, bs, rf, ()) = some l ∧ ∃ bs', l = .out (r, i, h, L, bs', ()) ∧ bs'.length = L.length ∧ ∀ k, k < L.length → bs'.getD k false = (bs.getD k false || decide (L.getD k 0 ∈ rf)) := by
 unfold r15_From_l2
 refine iterL_rule (fun m x => ∃ (k : Nat) (bs' : List Bool), k ≤ L.length ∧ m = L.length - k ∧ x = (r, i, (k : Int), h, L, bs', rf, ()) ∧ bs'.length = L.length ∧ (∀ j, j < k → bs'.getD j false = (bs.getD j false || decide (L.getD j 0 ∈ rf))) ∧ ∀ j, k ≤ j → bs'.getD j false = bs.getD j false) ?_ _ L.length _ (by omega) ⟨0, bs, by omega, rfl, rfl, hb, fun j hj => by omega, fun j _ => rfl⟩
 rintro m x ⟨k, bs', k1, rfl, rfl, hb', h1, h2⟩
 simp only [r15_From_s2, r15_From_s2r, Bool.cond_decide, Int.toNat_natCast, in8_eq rf _ (show rf.length < 9223372036854775807 by omega), Option.bind_some]
 by_cases hk : k < L.length
 ·left
  have hg := h2 k (Nat.le_refl _)
  refine ⟨L.length - (k + 1), (r, i, ((k + 1 : Nat) : Int), h, L, bs'.set k (bs.getD k false || decide (L.getD k 0 ∈ rf)), rf, ()), by omega, ?_, k + 1, _, by omega, rfl, rfl, by rw [List.length_set]; exact hb', fun j hj => ?_, fun j hj => ?_⟩
  ·rw [if_pos (by omega), if_pos (by omega), if_pos (by omega), wi64_id (by omega) (by omega), hg]
   cases hc : bs.getD k false with
   | true =>
    rw [cond_true, if_pos (by omega), if_pos (by omega)]; rfl
   | false =>
    rw [cond_false, if_pos (by omega), if_pos (by omega), if_pos (by omega), if_pos (by omega), Bool.false_or]; rfl
  ·by_cases e : k = j
   ·subst e
    rw [List.getD, List.getElem?_set]; simp [show k < bs'.length by omega]
   ·have : (bs'.set k (bs.getD k false || decide (L.getD k 0 ∈ rf))).getD j false = bs'.getD j false := by
     simp only [List.getD, List.getElem?_set, if_neg e]
    rw [this]; exact h1 j (by omega)
  ·have : (bs'.set k (bs.getD k false || decide (L.getD k 0 ∈ rf))).getD j false = bs'.getD j false := by
    simp only [List.getD, List.getElem?_set, if_neg (show ¬ k = j by omega)]
   rw [this]; exact h2 j (by omega)
 ·right
  exact ⟨_, by rw [if_neg (by omega)], bs', rfl, hb', fun j hj => h1 j (by omega)⟩
end
def ClosedB (h : Heap) (L : List Int) (bs : List Bool) : Prop := ∀ j k, j < L.length → k < L.length → bs.getD j false = true → L.getD k 0 ∈ refsO h (L.getD j 0) → bs.getD k false = true
def SoundB (h : Heap) (vs : List Val) (L : List Int) (bs : List Bool) : Prop := ∀ k, k < L.length → bs.getD k false = true → Rch h vs (L.getD k 0)
def MonoB (a b : List Bool) : Prop := a.length = b.length ∧ ∀ k, k < a.length → a.getD k false = true → b.getD k false = true
theorem refsO_len {h : Heap} (f : FormP h) {a : Int} (ho : okA h a = true) : (refsO h a).length ≤ 100 := by
 have := rfN_len h a (cnt h a).toNat
 have := (og_rng f ho).2.2.2.2
 have : cnt h a ≤ 15 := this
 unfold refsO; omega
theorem from_l3 {h : Heap} (f : FormP h) {vs : List Val} (r : Int) {bs : List Bool} (hb : bs.length = (lst h).length) (hs : SoundB h vs (lst h) bs) :
  ∃ l, r15_From_l3 (r, 0, h, lst h, bs, ()) = some l ∧ ∃ bs', l = .out (r, h, lst h, bs', ()) ∧ MonoB bs bs' ∧ SoundB h vs (lst h) bs' ∧ (bs' = bs → ClosedB h (lst h) bs) ∧ (ClosedB h (lst h) bs → bs' = bs) := by
 have hL := lst_len f
 have hok : ∀ k, k < (lst h).length → okA h ((lst h).getD k 0) = true := fun k hk => by
  rw [get_d _ _ _ hk]; exact (mem_lst f).1 (List.getElem_mem hk)
 unfold r15_From_l3
 refine iterL_rule (fun m x => ∃ (i : Nat) (bs' : List Bool), i ≤ (lst h).length ∧ m = (lst h).length - i ∧ x = (r, (i : Int), h, lst h, bs', ()) ∧ MonoB bs bs' ∧ SoundB h vs (lst h) bs' ∧
  (bs' = bs → ∀ j k, j < i → k < (lst h).length → bs.getD j false = true → (lst h).getD k 0 ∈ refsO h ((lst h).getD j 0) → bs.getD k false = true) ∧ (ClosedB h (lst h) bs → bs' = bs)) ?_ _ (lst h).length _ (by omega) ⟨0, bs, by omega, rfl, rfl, ⟨rfl, fun _ _ h => h⟩, hs, fun _ j k hj => by omega, fun _ => rfl⟩
 rintro m x ⟨i, bs', i1, rfl, rfl, hm, hs', hc, hc'⟩
 have hlb := hm.1
 simp only [r15_From_s3, r15_From_s3r, Bool.cond_decide, Int.toNat_natCast, condn]
 by_cases hi : i < (lst h).length
 ·left
  rw [if_pos (by omega), if_pos (by omega), if_pos (by omega), wi64_id (n := (i : Int) + 1) (by omega) (by omega)]
  cases hg : bs'.getD i false with
  | false =>
   refine ⟨(lst h).length - (i + 1), _, by omega, rfl, i + 1, bs', by omega, rfl, rfl, hm, hs', fun e j k hj hk ht hin => ?_, hc'⟩
   by_cases ej : j = i
   ·subst ej; subst e; rw [hg] at ht; cases ht
   ·exact hc e j k (by omega) hk ht hin
  | true =>
   have ho := hok i hi
   obtain ⟨l2, e2, bs2, rfl, hb2, hp⟩ := from_l2 hL r i (h := h) (bs := bs') (by omega) (refsO_len f ho)
   rw [cond_true, if_pos (by omega), if_pos (by omega), refs8_eq f ho, Option.bind_some]
   dsimp only
   rw [show rfN h ((lst h).getD i 0) (cnt h ((lst h).getD i 0)).toNat = refsO h ((lst h).getD i 0) from rfl, e2, Option.bind_some]
   dsimp only
   rw [wi64_id (n := (i : Int) + 1) (by omega) (by omega)]
   have hm2 : MonoB bs' bs2 := ⟨by omega, fun k hk ht => by rw [hp k (by omega), ht]; rfl⟩
   refine ⟨(lst h).length - (i + 1), _, by omega, rfl, i + 1, bs2, by omega, rfl, rfl, ⟨by omega, fun k hk ht => hm2.2 k (by omega) (hm.2 k hk ht)⟩, fun k hk ht => ?_, fun e => ?_, fun c => ?_⟩
   ·rw [hp k hk, Bool.or_eq_true, decide_eq_true_iff] at ht
    rcases ht with ht | ht
    ·exact hs' k hk ht
    ·exact .step (hs' i hi hg) ht (hok k hk)
   ·subst e
    have e' : bs' = bs2 := by
     have a1 := cntT_mono hm.1 hm.2
     have a2 := cntT_mono hm2.1 hm2.2
     exact a2.2 (by omega)
    intro j k hj hk ht hin
    by_cases ej : j = i
    ·subst ej
     rw [hp k hk, decide_eq_true hin, Bool.or_true]
    ·exact hc e' j k (by omega) hk ht hin
   ·have e := hc' c
    subst e
    refine List.ext_getElem (by omega) fun k k1 k2 => ?_
    have h1 := hp k (by omega)
    rw [get_d _ _ _ k1, get_d _ _ _ k2] at h1
    rw [h1]
    cases hx : bs'[k] with
    | true => rfl
    | false =>
     rw [Bool.false_or, decide_eq_false_iff_not]
     intro hin
     have := c i k hi (by omega) hg hin
     rw [get_d _ _ _ k2, hx] at this; cases this
 ·right
  obtain rfl : i = (lst h).length := by omega
  exact ⟨_, by rw [if_neg (by omega)], bs', rfl, hm, hs', fun e j k hj hk ht hin => hc e j k hj hk ht hin, hc'⟩
theorem from_l4 {h : Heap} (f : FormP h) {vs : List Val} {bs : List Bool} (hb : bs.length = (lst h).length) (hs : SoundB h vs (lst h) bs) :
  ∃ l, r15_From_l4 (0, h, lst h, bs, ()) = some l ∧ ∃ bs', l = .out (lst h, bs', ()) ∧ MonoB bs bs' ∧ SoundB h vs (lst h) bs' ∧ ClosedB h (lst h) bs' := by
 have hL := lst_len f
 unfold r15_From_l4
 refine iterL_rule (fun m x => ∃ (r : Nat) (bs' : List Bool), r ≤ (lst h).length ∧ m = (lst h).length - r ∧ x = ((r : Int), h, lst h, bs', ()) ∧ MonoB bs bs' ∧ SoundB h vs (lst h) bs' ∧ (ClosedB h (lst h) bs' ∨ r ≤ cntT bs')) ?_ _ (lst h).length _ (by omega) ⟨0, bs, by omega, rfl, rfl, ⟨rfl, fun _ _ h => h⟩, hs, .inr (Nat.zero_le _)⟩
 rintro m x ⟨r, bs', r1, rfl, rfl, hm, hs', hc⟩
 have hlb := hm.1
 simp only [r15_From_s4, r15_From_s4r, Bool.cond_decide]
 by_cases hr : r < (lst h).length
 ·left
  obtain ⟨l3, e3, bs3, rfl, hm3, hs3, c1, c2⟩ := from_l3 f (r : Int) (vs := vs) (bs := bs') (by omega) hs'
  have hl3 := hm3.1
  rw [if_pos (by omega), e3, Option.bind_some]
  dsimp only
  rw [wi64_id (by omega) (by omega)]
  refine ⟨(lst h).length - (r + 1), _, by omega, rfl, r + 1, bs3, by omega, rfl, rfl, ⟨by omega, fun k hk ht => hm3.2 k (by omega) (hm.2 k hk ht)⟩, hs3, ?_⟩
  by_cases e : bs3 = bs'
  ·left; rw [e]; exact c1 e
  ·right
   have a := cntT_mono hm3.1 hm3.2
   rcases hc with hc | hc
   ·exact absurd (c2 hc) e
   ·have : cntT bs' ≠ cntT bs3 := fun h => e (a.2 h).symm
    omega
 ·right
  obtain rfl : r = (lst h).length := by omega
  refine ⟨_, by rw [if_neg (by omega)], bs', rfl, hm, hs', ?_⟩
  rcases hc with hc | hc
  ·exact hc
  ·have := cntT_le bs'
   intro j k _ hk _ _
   exact cntT_full (by omega) k (by omega)
theorem from_l5 {L : List Int} (hL : L.length ≤ 512) {bs : List Bool} (p : Int → Bool) (hb : bs.length = L.length) (hp : ∀ k, k < L.length → bs.getD k false = p (L.getD k 0)) :
  r15_From_l5 (0, L, bs, [], ()) = some (.out (L.filter p, ())) := by
 unfold r15_From_l5
 refine iterL_run L.length (fun i => ((i : Int), L, bs, (L.take i).filter p, ())) (fun i hi => ?_) ?_ (by omega) rfl
 ·have ht : L.take (i + 1) = L.take i ++ [L[i]] := (List.take_append_getElem hi).symm
  have hf : ((L.take i).filter p).length ≤ 512 := by
   have := List.length_filter_le p (L.take i)
   rw [List.length_take] at this; omega
  have hg := hp i hi
  simp only [r15_From_s5, r15_From_s5r, Bool.cond_decide, Int.toNat_natCast]
  rw [if_pos (by omega), if_pos (by omega), if_pos (by omega), hg, wi64_id (by omega) (by omega), ht, List.filter_append, get_d _ _ _ hi]
  cases hc : p L[i] with
  | true =>
   rw [cond_true, if_pos (by omega), if_pos (by omega), if_pos (by omega)]
   simp [List.filter_cons, hc]
  | false =>
   rw [cond_false]
   simp [List.filter_cons, hc]
 ·simp only [r15_From_s5, r15_From_s5r, Bool.cond_decide]
  rw [if_neg (by omega), List.take_of_length_le (Nat.le_refl _)]
theorem from15_eq {h : Heap} (f : FormP h) {vs : List Val} (hv : vs.length ≤ 1000) : r15_From (h, vs, ()) = some ((lst h).filter (rchB h vs), ()) := by
 have hL := lst_len f
 have hok : ∀ k, k < (lst h).length → okA h ((lst h).getD k 0) = true := fun k hk => by
  rw [get_d _ _ _ hk]; exact (mem_lst f).1 (List.getElem_mem hk)
 have hg0 : ∀ k, k < (lst h).length → ((lst h).map (named vs)).getD k false = named vs ((lst h).getD k 0) := fun k hk => by
  rw [get_d _ _ _ (by rw [List.length_map]; exact hk), List.getElem_map, get_d _ _ _ hk]
 obtain ⟨l4, e4, bs, rfl, hm, hs, hc⟩ := from_l4 f (vs := vs) (bs := (lst h).map (named vs)) (by rw [List.length_map]) (fun k hk ht => by
  rw [hg0 k hk] at ht
  exact .base (hok k hk) ht)
 have hlb := hm.1
 rw [List.length_map] at hlb
 have hp : ∀ k, k < (lst h).length → bs.getD k false = rchB h vs ((lst h).getD k 0) := fun k hk => by
  have hcomp : ∀ a, Rch h vs a → ∀ k, k < (lst h).length → (lst h).getD k 0 = a → bs.getD k false = true := by
   intro a ra
   induction ra with
   | base ho hn =>
    intro k hk e
    exact hm.2 k (by rw [List.length_map]; exact hk) (by rw [hg0 k hk, e]; exact hn)
   | step ra hin ho ih =>
    intro k hk e
    obtain ⟨j, hj, ej⟩ := List.mem_iff_getElem.1 ((mem_lst f).2 ra.ok)
    have ej' : (lst h).getD j 0 = _ := (get_d _ _ _ hj).trans ej
    exact hc j k hj hk (ih j hj ej') (by rw [e, ej']; exact hin)
  cases hx : rchB h vs ((lst h).getD k 0) with
  | true => exact hcomp _ (rchB_iff.1 hx) k hk rfl
  | false =>
   cases hy : bs.getD k false with
   | false => rfl
   | true =>
    have := rchB_iff.2 (hs k hk hy)
    rw [hx] at this; cases this
 simp only [r15_From, r15_From_r, list_eq f, Option.bind_some, Bool.cond_decide, beq_self_eq_true, cond_true, Int.toNat_natCast]
 rw [if_pos (by omega), if_pos (by omega), from_l1 hL hv, Option.bind_some]
 dsimp only
 rw [e4, Option.bind_some]
 dsimp only
 rw [from_l5 hL (rchB h vs) hlb.symm hp, Option.bind_some]
end Go.Proofs.YtkjpakaidjpjgaaGreatDoor.Den
/- Pure laws: a cycle's beginning. -/
namespace Go.Proofs.YtkjpakaidjpjgaaGreatDoor.Den
open Go
set_option linter.unusedVariables false
set_option linter.unusedSimpArgs false
set_option maxRecDepth 100000
abbrev MutT : Type := (List Val) × Int × (Int × Int × Val) × Int × Val × (List Int) × Unit
def mz : MutT := ([], 0, (0, 0, 0, 0, ()), 0, (0, 0, ()), List.replicate 4 0, ())
def regs (m : MutT) : List Val := if m.2.1 = 2 then [(2, m.2.2.2.1, ())] else if m.2.1 = 3 then [m.2.2.2.2.1] else if m.2.1 = 4 then [(2, m.2.2.2.1, ()), m.2.2.2.2.1] else []
def held1 (m : MutT) : List Val := m.1 ++ regs m
def heldL (ms : List MutT) : List Val := ms.flatMap held1
def pend1 (h : Heap) (m : MutT) : List Val := if m.2.1 = 4 then [fldV h m.2.2.2.1 m.2.2.1.2.2.1] else []
def pendL (h : Heap) (ms : List MutT) : List Val := ms.flatMap (pend1 h)
structure MsP (ms : List MutT) : Prop where
 len : ms.length ≤ 10
 st : ∀ m : MutT, m ∈ ms → m.1.length ≤ 20
 obj : ∀ m : MutT, m ∈ ms → -9223372036854775808 ≤ m.2.2.2.1 ∧ m.2.2.2.1 < 9223372036854775808
theorem flat_take {α β : Type} (f : α → List β) (l : List α) (i : Nat) (hi : i < l.length) : (l.take (i + 1)).flatMap f = (l.take i).flatMap f ++ f l[i] := by
 have : l.take (i + 1) = l.take i ++ [l[i]] := (List.take_append_getElem hi).symm
 rw [this, List.flatMap_append]; simp
theorem regs_len (m : MutT) : (regs m).length ≤ 2 := by
 unfold regs; split
 ·simp
 ·split
  ·simp
  ·split <;> simp
theorem heldL_len : ∀ {ms : List MutT}, (∀ m : MutT, m ∈ ms → m.1.length ≤ 20) → (heldL ms).length ≤ 22 * ms.length
 | [], _ => by simp [heldL]
 | m :: ms, h => by
  have h1 := h m List.mem_cons_self
  have h2 := heldL_len (ms := ms) (fun x hx => h x (List.mem_cons_of_mem _ hx))
  have h3 := regs_len m
  unfold heldL at h2 ⊢
  rw [List.flatMap_cons, List.length_append, held1, List.length_append, List.length_cons]
  omega
theorem pendL_len (h : Heap) : ∀ (ms : List MutT), (pendL h ms).length ≤ ms.length
 | [] => by simp [pendL]
 | m :: ms => by
  have h2 := pendL_len h ms
  have h3 : (pend1 h m).length ≤ 1 := by unfold pend1; split <;> simp
  unfold pendL at h2 ⊢
  rw [List.flatMap_cons, List.length_append, List.length_cons]
  omega
theorem MsP.take {ms : List MutT} (p : MsP ms) (h : Heap) (i : Nat) : (heldL (ms.take i)).length ≤ 220 ∧ (pendL h (ms.take i)).length ≤ 10 := by
 have h1 := heldL_len (ms := ms.take i) (fun m hm => p.st m (List.mem_of_mem_take hm))
 have h2 := pendL_len h (ms.take i)
 have := p.len
 rw [List.length_take] at h1 h2
 omega
theorem registers_eq (m : MutT) : snap_Registers (m, ()) = some (regs m, ()) := by
 simp only [snap_Registers, snap_Registers_r, snap_list, snap_list_r, ibeq, Bool.cond_decide, Option.bind_some, regs]
 split
 ·rfl
 ·split
  ·rfl
  ·split <;> rfl
theorem registers18_eq (m : MutT) : r18_Registers (m, ()) = some (regs m, ()) := by
 simp only [r18_Registers, r18_Registers_r, ibeq, Bool.cond_decide, regs]
 by_cases h2 : m.2.1 = 2
 ·simp [h2]
 by_cases h4 : m.2.1 = 4
 ·simp [h4]
 by_cases h3 : m.2.1 = 3
 ·simp [h3]
 ·simp [h2, h3, h4]
theorem held_eq {ms : List MutT} (p : MsP ms) : snap_Held (ms, ()) = some (heldL ms, ()) := by
 have hn := p.len
 have hr : snap_Held_l0 (ms, (ms.length : Int), 0, [], ()) = some (.out (heldL ms, ())) := by
  unfold snap_Held_l0
  refine iterL_run ms.length (fun i => (ms, (ms.length : Int), (i : Int), heldL (ms.take i), ())) (fun i hi => ?_) ?_ (by omega) rfl
  ·have hl := (p.take ([], [], false, ()) i).1
   have hm := p.st _ (List.getElem_mem hi)
   have hg := regs_len ms[i]
   simp only [snap_Held_s0, snap_Held_s0r, Bool.cond_decide, Int.toNat_natCast, registers_eq, Option.bind_some]
   simp only [show (([] : List Val), (0 : Int), ((0 : Int), (0 : Int), (0 : Int), (0 : Int), ()), (0 : Int), ((0 : Int), (0 : Int), ()), List.replicate 4 (0 : Int), ()) = mz from rfl, get_d ms i mz hi, List.length_append]
   rw [if_pos (by omega), if_pos (by omega), if_pos (by omega), if_pos (by omega), if_pos (by omega), wi64_id (by omega) (by omega), heldL, heldL, flat_take held1 ms i hi, List.append_assoc]
   rfl
  ·simp only [snap_Held_s0, snap_Held_s0r, Bool.cond_decide]
   rw [if_neg (by omega), List.take_of_length_le (Nat.le_refl _)]
 simp only [snap_Held, snap_Held_r, hr, Option.bind_some]
theorem held18_eq {ms : List MutT} (p : MsP ms) : r18_Held (ms, ()) = some (heldL ms, ()) := by
 have hn := p.len
 have hr : r18_Held_l0 (ms, 0, [], ()) = some (.out (heldL ms, ())) := by
  unfold r18_Held_l0
  refine iterL_run ms.length (fun i => (ms, (i : Int), heldL (ms.take i), ())) (fun i hi => ?_) ?_ (by omega) rfl
  ·have hl := (p.take ([], [], false, ()) i).1
   have hm := p.st _ (List.getElem_mem hi)
   have hg := regs_len ms[i]
   simp only [r18_Held_s0, r18_Held_s0r, Bool.cond_decide, Int.toNat_natCast, registers18_eq, Option.bind_some]
   simp only [show (([] : List Val), (0 : Int), ((0 : Int), (0 : Int), (0 : Int), (0 : Int), ()), (0 : Int), ((0 : Int), (0 : Int), ()), List.replicate 4 (0 : Int), ()) = mz from rfl, get_d ms i mz hi, List.length_append]
   rw [if_pos (by omega), if_pos (by omega), if_pos (by omega), if_pos (by omega), if_pos (by omega), if_pos (by omega), if_pos (by omega), wi64_id (by omega) (by omega), heldL, heldL, flat_take held1 ms i hi, List.append_assoc]
   rfl
  ·simp only [r18_Held_s0, r18_Held_s0r, Bool.cond_decide]
   rw [if_neg (by omega), List.take_of_length_le (Nat.le_refl _)]
 simp only [r18_Held, r18_Held_r, hr, Option.bind_some]
def turnS (h : Heap) : Heap := (h.1, h.2.1, !h.2.2.1, ())
theorem FormP.turn {h : Heap} (f : FormP h) : FormP (turnS h) := ⟨f.n1, f.n16, f.len, f.right, f.word⟩
theorem few18S_eq (ms : List MutT) : ∃ b, r18_Few (ms, ()) = some (b, ()) ∧ (b = true → ms.length ≤ 10 ∧ ∀ m : MutT, m ∈ ms → m.1.length ≤ 20) := by
 have key : ∃ l, r18_Few_l0 (ms, 0, ()) = some l ∧ (l = .ret (false, ()) ∨ (l = .out (ms, ()) ∧ ∀ j (hj : j < ms.length), j < 20 → ms[j].1.length ≤ 20)) := by
  unfold r18_Few_l0
  refine iterL_rule (fun n x => ∃ i : Nat, i ≤ 20 ∧ n = 20 - i ∧ x = (ms, (i : Int), ()) ∧ ∀ j (hj : j < ms.length), j < i → ms[j].1.length ≤ 20) ?_ _ 20 _ (by omega) ⟨0, by omega, rfl, rfl, fun j _ hj => by omega⟩
  rintro n x ⟨i, i1, rfl, rfl, hi⟩
  simp only [r18_Few_s0, r18_Few_s0r, Bool.cond_decide, Int.toNat_natCast]
  simp only [show (([] : List Val), (0 : Int), ((0 : Int), (0 : Int), (0 : Int), (0 : Int), ()), (0 : Int), ((0 : Int), (0 : Int), ()), List.replicate 4 (0 : Int), ()) = mz from rfl]
  by_cases hn : i < ms.length
  ·by_cases h20 : i < 20
   ·rw [if_pos (by omega), if_pos (by omega), if_pos (by omega), if_pos (by omega), get_d ms i mz hn]
    by_cases hc : (ms[i].1.length : Int) > 20
    ·rw [if_pos hc]
     exact .inr ⟨_, rfl, .inl rfl⟩
    ·rw [if_neg hc, wi64_id (by omega) (by omega)]
     refine .inl ⟨20 - (i + 1), _, by omega, rfl, i + 1, by omega, rfl, rfl, fun j h1 h2 => ?_⟩
     by_cases e : j = i
     ·subst e; omega
     ·exact hi j h1 (by omega)
   ·rw [if_pos (by omega), if_neg (by omega)]
    exact .inr ⟨_, rfl, .inr ⟨rfl, fun j h1 h2 => hi j h1 (by omega)⟩⟩
  ·rw [if_neg (by omega)]
   exact .inr ⟨_, rfl, .inr ⟨rfl, fun j h1 h2 => hi j h1 (by omega)⟩⟩
 obtain ⟨l, e, hl⟩ := key
 simp only [r18_Few, r18_Few_r, e, Option.bind_some]
 rcases hl with rfl | ⟨rfl, hl⟩
 ·exact ⟨_, rfl, fun h => by cases h⟩
 ·refine ⟨_, rfl, fun h => ?_⟩
  have h : (ms.length : Int) ≤ 10 := of_decide_eq_true h
  refine ⟨by omega, fun m hm => ?_⟩
  obtain ⟨j, hj, rfl⟩ := List.mem_iff_getElem.1 hm
  exact hl j hj (by omega)
end Go.Proofs.YtkjpakaidjpjgaaGreatDoor.Den
/- Pure laws: loops that look for one; a world's form. -/
namespace Go.Proofs.YtkjpakaidjpjgaaGreatDoor.Den
open Go
set_option linter.unusedVariables false
set_option linter.unusedSimpArgs false
set_option maxRecDepth 100000
def ScanR {o r : U} (a : Bool) (n : Nat) (e : Option (LRes o r)) (lo : o.T) (lr : Nat → r.T) : Prop :=
 (a = false ∧ e = some (.out lo)) ∨ (a = true ∧ ∃ i, i < n ∧ e = some (.ret (lr i)))
theorem scan_rule {h o r : U} {step : h.T → Option (SRes h o r)} (n : Nat) (g : Nat → h.T) (P : Nat → Bool) (lo : o.T) (lr : Nat → r.T)
  (hs : ∀ i, i < n → step (g i) = if P i = true then some (.fin (.ret (lr i))) else some (.next (g (i + 1))))
  (he : step (g n) = some (.fin (.out lo))) {fuel : Nat} (hf : n < fuel) {x : h.T} (hx : x = g 0) :
  ((∀ i, i < n → P i = false) ∧ iterL step fuel x = some (.out lo)) ∨ ∃ i, i < n ∧ P i = true ∧ (∀ j, j < i → P j = false) ∧ iterL step fuel x = some (.ret (lr i)) := by
 have key : ∃ l, iterL step fuel x = some l ∧ (((∀ i, i < n → P i = false) ∧ l = .out lo) ∨ ∃ i, i < n ∧ P i = true ∧ (∀ j, j < i → P j = false) ∧ l = .ret (lr i)) := by
  subst hx
  refine iterL_rule (fun m y => ∃ i, i ≤ n ∧ m = n - i ∧ y = g i ∧ ∀ j, j < i → P j = false) ?_ fuel n _ hf ⟨0, by omega, rfl, rfl, fun j hj => by omega⟩
  rintro m y ⟨i, i1, rfl, rfl, hz⟩
  by_cases hi : i < n
  ·cases hp : P i with
   | true => exact .inr ⟨_, by rw [hs i hi, if_pos hp], .inr ⟨i, hi, hp, hz, rfl⟩⟩
   | false =>
    refine .inl ⟨n - (i + 1), _, by omega, by rw [hs i hi, if_neg (by simp [hp])], i + 1, by omega, rfl, rfl, fun j hj => ?_⟩
    by_cases e : j = i
    ·subst e; exact hp
    ·exact hz j (by omega)
  ·obtain rfl : i = n := by omega
   exact .inr ⟨_, he, .inl ⟨hz, rfl⟩⟩
 obtain ⟨l, e, h⟩ := key
 rcases h with ⟨h1, rfl⟩ | ⟨i, h1, h2, h3, rfl⟩
 ·exact .inl ⟨h1, e⟩
 ·exact .inr ⟨i, h1, h2, h3, e⟩
theorem scan_any {h o r : U} {step : h.T → Option (SRes h o r)} {α : Type} {l : List α} {p : α → Bool} {lo : o.T} {lr : Nat → r.T} (g : Nat → h.T)
  (hs : ∀ i (hi : i < l.length), step (g i) = if p l[i] = true then some (.fin (.ret (lr i))) else some (.next (g (i + 1))))
  (he : step (g l.length) = some (.fin (.out lo))) {fuel : Nat} (hf : l.length < fuel) {x : h.T} (hx : x = g 0) :
  ScanR (l.any p) l.length (iterL step fuel x) lo lr := by
 rcases scan_rule l.length g (fun i => if hi : i < l.length then p l[i] else false) lo lr (fun i hi => by rw [hs i hi]; simp [hi]) he hf hx with ⟨h1, e⟩ | ⟨i, hi, h2, _, e⟩
 ·refine .inl ⟨?_, e⟩
  rw [List.any_eq_false]
  intro a ha
  obtain ⟨j, hj, rfl⟩ := List.mem_iff_getElem.1 ha
  have := h1 j hj
  simp only [hj, dif_pos] at this
  simp [this]
 ·refine .inr ⟨?_, i, hi, e⟩
  simp only [hi, dif_pos] at h2
  rw [List.any_eq_true]
  exact ⟨_, List.getElem_mem hi, h2⟩
theorem any_not {α : Type} (l : List α) (p : α → Bool) : l.any (fun a => !p a) = !l.all p := by
 rw [List.not_all_eq_any_not]
abbrev Conf : Type := Int × Int × Int × Int × Int × Unit
def mayP (c : Conf) : Prop := 1 ≤ c.1 ∧ c.1 ≤ 16 ∧ 1 ≤ c.2.1 ∧ c.2.1 ≤ 8 ∧ 1 ≤ c.2.2.1 ∧ c.2.2.1 ≤ 8 ∧ 0 ≤ c.2.2.2.1 ∧ c.2.2.2.1 ≤ 16 ∧ 0 ≤ c.2.2.2.2.1 ∧ c.2.2.2.2.1 ≤ 8
instance (c : Conf) : Decidable (mayP c) := by unfold mayP; infer_instance
theorem within20_eq (n a b : Int) : cycle_within (n, a, b, ()) = some (decide (a ≤ n ∧ n ≤ b), ()) := by
 simp only [cycle_within, cycle_within_r, Bool.cond_decide]
 by_cases h1 : n ≥ a
 ·rw [if_pos h1]; simp [show a ≤ n from h1]
 ·rw [if_neg h1]; simp [show ¬ a ≤ n from h1]
theorem cycleMay_eq (c : Conf) : cycle_May (c, ()) = some (decide (mayP c), ()) := by
 simp only [cycle_May, cycle_May_r, within20_eq, Option.bind_some, Bool.cond_decide]
 repeat' split
 all_goals first
  | exact congrArg (fun b => some (b, ())) (decide_eq_decide.2 (by unfold mayP; omega))
  | exact congrArg (fun b => some (b, ())) (decide_eq_false (p := mayP c) (by unfold mayP; omega)).symm
theorem may20_eq (c : Conf) : r20_May (c, ()) = some (decide (mayP c), ()) := by
 simp only [r20_May, r20_May_r, Bool.cond_decide]
 repeat' split
 all_goals first
  | exact congrArg (fun b => some (b, ())) (decide_eq_decide.2 (by unfold mayP; omega))
  | exact congrArg (fun b => some (b, ())) (decide_eq_false (p := mayP c) (by unfold mayP; omega)).symm
abbrev WrldT : Type := Conf × Heap × (List MutT) × MarkT × Int × Bool × Int × (List Conf) × Unit
def cachesW (ms : List MutT) : List (List Int) := ms.map fun m => m.2.2.2.2.2.1
theorem cachesW_take (ms : List MutT) (i : Nat) (hi : i < ms.length) : cachesW (ms.take (i + 1)) = cachesW (ms.take i) ++ [(ms[i] : MutT).2.2.2.2.2.1] := by
 unfold cachesW
 rw [← List.take_append_getElem hi, List.map_append]; rfl
theorem cachesW_len (ms : List MutT) : (cachesW ms).length = ms.length := by unfold cachesW; rw [List.length_map]
theorem caches_eq {w : WrldT} (hl : w.2.2.1.length ≤ 1000) : cycle_Caches (w, ()) = some (cachesW w.2.2.1, ()) := by
 obtain ⟨c, h, ms, rest⟩ := w
 have hl : ms.length ≤ 1000 := hl
 have hr : cycle_Caches_l0 (ms, (ms.length : Int), 0, [], ()) = some (.out (cachesW ms, ())) := by
  unfold cycle_Caches_l0
  refine iterL_run ms.length (fun i => (ms, (ms.length : Int), (i : Int), cachesW (ms.take i), ())) (fun i hi => ?_) ?_ (by omega) rfl
  ·have hn : (cachesW (ms.take i)).length = i := by rw [cachesW_len, List.length_take]; omega
   simp only [cycle_Caches_s0, cycle_Caches_s0r, Bool.cond_decide, Int.toNat_natCast]
   simp only [show (([] : List Val), (0 : Int), ((0 : Int), (0 : Int), (0 : Int), (0 : Int), ()), (0 : Int), ((0 : Int), (0 : Int), ()), List.replicate 4 (0 : Int), ()) = mz from rfl, get_d ms i mz hi]
   rw [if_pos (by omega), if_pos (by omega), if_pos (by omega), if_pos (by omega), wi64_id (by omega) (by omega), cachesW_take ms i hi]
   rfl
  ·simp only [cycle_Caches_s0, cycle_Caches_s0r, Bool.cond_decide]
   rw [if_neg (by omega), List.take_of_length_le (Nat.le_refl _)]
 simp only [cycle_Caches, cycle_Caches_r, hr, Option.bind_some]
theorem caches20_eq {w : WrldT} (hl : w.2.2.1.length ≤ 1000) : r20_Caches (w, ()) = some (cachesW w.2.2.1, ()) := by
 obtain ⟨c, h, ms, rest⟩ := w
 have hl : ms.length ≤ 1000 := hl
 have hr : r20_Caches_l0 (0, (c, h, ms, rest), [], ()) = some (.out (cachesW ms, ())) := by
  unfold r20_Caches_l0
  refine iterL_run ms.length (fun i => ((i : Int), (c, h, ms, rest), cachesW (ms.take i), ())) (fun i hi => ?_) ?_ (by omega) rfl
  ·have hn : (cachesW (ms.take i)).length = i := by rw [cachesW_len, List.length_take]; omega
   simp only [r20_Caches_s0, r20_Caches_s0r, Bool.cond_decide, Int.toNat_natCast]
   simp only [show (([] : List Val), (0 : Int), ((0 : Int), (0 : Int), (0 : Int), (0 : Int), ()), (0 : Int), ((0 : Int), (0 : Int), ()), List.replicate 4 (0 : Int), ()) = mz from rfl, get_d ms i mz hi]
   rw [if_pos (by omega), if_pos (by omega), if_pos (by omega), if_pos (by omega), wi64_id (by omega) (by omega), cachesW_take ms i hi]
   rfl
  ·simp only [r20_Caches_s0, r20_Caches_s0r, Bool.cond_decide]
   rw [if_neg (by omega), List.take_of_length_le (Nat.le_refl _)]
 simp only [r20_Caches, r20_Caches_r, hr, Option.bind_some]
theorem grey_Right_eq {g : Grey} (hl : g.2.1.length ≤ 1000000) : grey_Right (g, ()) = some (grB g, ()) := by
 have key : ScanR (g.2.1.any fun n => !decide (0 ≤ n)) g.2.1.length (grey_Right_l0 (g.2.1, (g.2.1.length : Int), 0, g, ())) (g, ()) (fun i => ((i : Int), g, ())) := by
  unfold grey_Right_l0
  refine scan_any (fun i => (g.2.1, (g.2.1.length : Int), (i : Int), g, ())) (fun i hi => ?_) ?_ (by omega) rfl
  ·simp only [grey_Right_s0, grey_Right_s0r, grey_Right_1, grey_Right_1_r, Bool.cond_decide, Int.toNat_natCast, get_d _ _ _ hi, Option.bind_some]
   rw [if_pos (by omega), if_pos (by omega), if_pos (by omega), wi64_id (by omega) (by omega)]
   by_cases e : g.2.1[i] < 0
   ·rw [if_pos e, if_pos (by simp; omega)]
   ·rw [if_neg e, if_neg (by simp; omega)]; rfl
  ·simp only [grey_Right_s0, grey_Right_s0r, Bool.cond_decide]
   rw [if_neg (by omega)]
 rw [any_not] at key
 simp only [grey_Right, grey_Right_r, grB, Bool.cond_decide]
 rcases key with ⟨h1, e⟩ | ⟨h1, i, hi, e⟩
 ·simp only [e, Option.bind_some]
  simp only [Bool.not_eq_false'] at h1
  rw [h1, Bool.and_true]
  by_cases c1 : g.1 ≥ 0
  ·by_cases c2 : g.1 ≤ 16
   ·by_cases c3 : (g.2.1.length : Int) ≤ g.1
    ·rw [if_pos c1, if_pos c2, if_pos c3, decide_eq_true (by omega)]
    ·rw [if_pos c1, if_pos c2, if_neg c3, decide_eq_false (by omega)]
   ·rw [if_pos c1, if_neg c2, decide_eq_false (by omega)]
  ·rw [if_neg c1, decide_eq_false (by omega)]
 ·simp only [e, Option.bind_some]
  simp only [Bool.not_eq_true'] at h1
  rw [h1, Bool.and_false, decide_eq_true (p := (i : Int) ≥ 0) (by omega)]
  repeat' split
  all_goals rfl
theorem mark_Right_1_eq {g : Grey} (hl : g.2.1.length ≤ 1000000) : mark_Right_1 (g, ()) = some (!grB g, ()) := by
 simp only [mark_Right_1, mark_Right_1_r, grey_Right_eq hl, Option.bind_some]
structure MrP (m : MarkT) : Prop where
 g : m.1.2.1.length ≤ 1000000
 bl : m.2.1.length ≤ 1000000
 b : ∀ g ∈ m.2.1, g.2.1.length ≤ 1000000
 ob : -9223372036854775808 ≤ m.2.2.2.1 ∧ m.2.2.2.1 < 9223372036854775808
theorem mark_Right_eq {h : Heap} (f : FormP h) {m : MarkT} (q : MrP m) : mark_Right (h, m, ()) = some (rtB h m, ()) := by
 have hbl := q.bl
 have key : ScanR (m.2.1.any fun g => !grB g) m.2.1.length (mark_Right_l0 (m.2.1, (m.2.1.length : Int), 0, h, m, ())) (h, m, ()) (fun i => ((i : Int), h, m, ())) := by
  unfold mark_Right_l0
  refine scan_any (fun i => (m.2.1, (m.2.1.length : Int), (i : Int), h, m, ())) (fun i hi => ?_) ?_ (by omega) rfl
  ·simp only [mark_Right_s0, mark_Right_s0r, Bool.cond_decide, Int.toNat_natCast, get_d _ _ _ hi]
   rw [if_pos (by omega), if_pos (by omega), if_pos (by omega), wi64_id (by omega) (by omega), mark_Right_1_eq (q.b _ (List.getElem_mem hi)), Option.bind_some]
   cases grB m.2.1[i] <;> rfl
  ·simp only [mark_Right_s0, mark_Right_s0r, Bool.cond_decide]
   rw [if_neg (by omega)]
 rw [any_not] at key
 simp only [mark_Right, mark_Right_r, objGet_eq f q.ob.1 q.ob.2, Option.bind_some, rtB, ibeq, Bool.cond_decide, grey_Right_eq q.g]
 have hfe : fe h m.2.2.2.1 m.2.2.2.2.1 = if (og h m.2.2.2.1).2.1 = true then if 0 ≤ m.2.2.2.2.1 ∧ m.2.2.2.2.1 < (og h m.2.2.2.1).1.2.2.2.1 then 0 else 4 else 1 := rfl
 have hok : m.2.2.2.1 = -1 → (og h m.2.2.2.1).2.1 = false := by
  intro e
  cases ho : (og h m.2.2.2.1).2.1 with
  | false => rfl
  | true =>
   have := (og_rng f ho).1
   omega
 rcases key with ⟨h1, e⟩ | ⟨h1, i, hi, e⟩
 ·simp only [Bool.not_eq_false'] at h1
  simp only [e, Option.bind_some, h1, Bool.true_and, grey_Right_eq q.g]
  have fin : (if m.2.2.2.2.2.1 ≥ -1 then some (decide (m.2.2.2.2.2.1 ≤ (h.1.length : Int)), ()) else some (false, ()) : Option (Bool × Unit)) = some (decide (-1 ≤ m.2.2.2.2.2.1 ∧ m.2.2.2.2.2.1 ≤ (h.1.length : Int)), ()) := by
   by_cases c : m.2.2.2.2.2.1 ≥ -1
   ·rw [if_pos c]
    exact congrArg (fun b => some (b, ())) (decide_eq_decide.2 (by omega))
   ·rw [if_neg c, decide_eq_false (by omega)]
  simp only [fin]
  cases hg : grB m.1 <;> simp only [cond_true, cond_false, Bool.true_and, Bool.false_and]
  ·by_cases o1 : m.2.2.2.1 = -1
   ·rw [if_pos o1, hok o1]
    simp only [cond_false]
    split <;> rfl
   ·rw [if_neg o1]
    cases (og h m.2.2.2.1).2.1 <;> simp only [cond_true, cond_false]
    split
    ·split <;> rfl
    ·rfl
  ·by_cases o1 : m.2.2.2.1 = -1
   ·rw [if_pos o1, if_pos o1, hok o1]
    simp only [cond_false]
    by_cases c : m.2.2.2.2.1 = 0
    ·rw [if_pos c, decide_eq_true c, Bool.and_true]
    ·rw [if_neg c, decide_eq_false c, Bool.and_false]
   ·rw [if_neg o1, if_neg o1, hfe]
    cases (og h m.2.2.2.1).2.1
    ·simp
    ·simp only [cond_true, if_true]
     by_cases c1 : m.2.2.2.2.1 ≥ 0
     ·by_cases c2 : m.2.2.2.2.1 < (og h m.2.2.2.1).1.2.2.2.1
      ·rw [if_pos c1, if_pos c2, if_pos ⟨c1, c2⟩]; simp
      ·rw [if_pos c1, if_neg c2, if_neg (fun hh => c2 hh.2)]; simp
     ·rw [if_neg c1, if_neg (fun hh => c1 hh.1)]; simp
 ·simp only [Bool.not_eq_true'] at h1
  simp only [e, Option.bind_some, h1, Bool.false_and, grey_Right_eq q.g]
  have hi0 : decide ((i : Int) ≥ 0) = true := decide_eq_true (by omega)
  simp only [if_pos (show (i : Int) ≥ 0 by omega), hi0, Bool.not_true, cond_false]
  cases (og h m.2.2.2.1).2.1 <;> simp only [cond_true, cond_false]
  ·repeat' split
   all_goals rfl
  ·repeat' split
   all_goals rfl
end Go.Proofs.YtkjpakaidjpjgaaGreatDoor.Den
/- Pure laws: has a world its form, may its mutators have turns. -/
namespace Go.Proofs.YtkjpakaidjpjgaaGreatDoor.Den
open Go
set_option linter.unusedVariables false
set_option linter.unusedSimpArgs false
set_option maxRecDepth 100000
def stkB (w : WrldT) (m : MutT) : Bool := decide ((m.1.length : Int) ≤ w.1.2.2.1)
def mkB (w : WrldT) : Bool := if w.2.2.2.2.1 = 1 then rtB w.2.1 w.2.2.2.1 && decide ((w.2.2.2.1.2.1.length : Int) = w.2.2.1.length) else true
open Classical in
noncomputable def formW (w : WrldT) : Bool := decide (mayP w.1) && (formB w.2.1 && (decide ((w.2.1.2.1.length : Int) = w.1.1) && (decide ((w.2.2.1.length : Int) = w.1.2.1) && (decide (0 ≤ w.2.2.2.2.1 ∧ w.2.2.2.2.1 ≤ 2) && (w.2.2.1.all (stkB w) && (decide (RightP w.2.1 (cachesW w.2.2.1)) && mkB w))))))
structure GW (w : WrldT) : Prop where
 gh : Good cHeap w.2.1
 sp : w.2.1.2.1.length ≤ 16
 ms : MsP w.2.2.1
 mr : MrP w.2.2.2.1
open Classical in
theorem cycleForm_eq {w : WrldT} (q : GW w) : cycle_Form (w, ()) = some (formW w, ()) := by
 have hms := q.ms.len
 have hsp := q.sp
 have key : ScanR (w.2.2.1.any fun m => !stkB w m) w.2.2.1.length (cycle_Form_l0 (w.2.2.1, (w.2.2.1.length : Int), 0, w, ())) (w, ()) (fun i => ((i : Int), w, ())) := by
  unfold cycle_Form_l0
  refine scan_any (fun i => (w.2.2.1, (w.2.2.1.length : Int), (i : Int), w, ())) (fun i hi => ?_) ?_ (by omega) rfl
  ·simp only [cycle_Form_s0, cycle_Form_s0r, Bool.cond_decide, Int.toNat_natCast]
   simp only [show (([] : List Val), (0 : Int), ((0 : Int), (0 : Int), (0 : Int), (0 : Int), ()), (0 : Int), ((0 : Int), (0 : Int), ()), List.replicate 4 (0 : Int), ()) = mz from rfl, get_d w.2.2.1 i mz hi]
   rw [if_pos (by omega), if_pos (by omega), if_pos (by omega), wi64_id (by omega) (by omega)]
   by_cases e : ((w.2.2.1[i] : MutT).1.length : Int) > w.1.2.2.1
   ·rw [if_pos e, if_pos (by unfold stkB; simp; omega)]
   ·rw [if_neg e, if_neg (by unfold stkB; simp; omega)]; rfl
  ·simp only [cycle_Form_s0, cycle_Form_s0r, Bool.cond_decide]
   rw [if_neg (by omega)]
 rw [any_not] at key
 simp only [cycle_Form, cycle_Form_r, cycleMay_eq, heapForm_eq q.gh (by omega), within20_eq, Option.bind_some, formW]
 cases h1 : decide (mayP w.1)
 ·rfl
 cases h2 : formB w.2.1
 ·rfl
 have f := form_of q.gh h2
 simp only [Bool.not_true, cond_false, Bool.true_and, ibne, Bool.cond_decide]
 by_cases h3 : (w.2.1.2.1.length : Int) = w.1.1
 ·rw [if_neg (fun hh => hh h3), decide_eq_true h3, Bool.true_and]
  by_cases h4 : (w.2.2.1.length : Int) = w.1.2.1
  ·rw [if_neg (fun hh => hh h4), decide_eq_true h4, Bool.true_and]
   cases h5 : decide (0 ≤ w.2.2.2.2.1 ∧ w.2.2.2.2.1 ≤ 2)
   ·rfl
   simp only [Bool.not_true, cond_false, Bool.true_and]
   rcases key with ⟨e1, e⟩ | ⟨e1, i, hi, e⟩
   ·simp only [Bool.not_eq_false'] at e1
    simp only [e, Option.bind_some, e1, Bool.true_and, caches_eq (w := w) (by omega), takeRight_eq (h := w.2.1) (c := cachesW w.2.2.1) (by rw [cachesW_len]; omega) (by omega)]
    cases decide (RightP w.2.1 (cachesW w.2.2.1))
    ·rfl
    simp only [Bool.not_true, cond_false, Bool.true_and, mark_Right_eq f q.mr, Option.bind_some, mkB, ibeq, Bool.cond_decide]
    by_cases h6 : w.2.2.2.2.1 = 1
    ·rw [if_neg (fun hh => hh h6), if_pos h6]
     cases rtB w.2.1 w.2.2.2.1 <;> rfl
    ·rw [if_pos h6, if_neg h6]
   ·simp only [Bool.not_eq_true'] at e1
    simp only [e, Option.bind_some, e1, Bool.false_and, Bool.cond_decide]
    rw [if_pos (show (i : Int) ≥ 0 by omega)]
  ·rw [if_pos h4, decide_eq_false h4, Bool.false_and]
 ·rw [if_pos h3, decide_eq_false h3, Bool.false_and]
open Classical in
theorem form20_eq {w : WrldT} (q : GW w) : r20_Form (w, ()) = some (formW w, ()) := by
 have hms := q.ms.len
 have hsp := q.sp
 have key : ScanR (w.2.2.1.any fun m => !stkB w m) w.2.2.1.length (r20_Form_l0 (0, w, ())) (w, ()) (fun _ => (false, ())) := by
  unfold r20_Form_l0
  refine scan_any (fun i => ((i : Int), w, ())) (fun i hi => ?_) ?_ (by omega) rfl
  ·simp only [r20_Form_s0, r20_Form_s0r, Bool.cond_decide, Int.toNat_natCast]
   simp only [show (([] : List Val), (0 : Int), ((0 : Int), (0 : Int), (0 : Int), (0 : Int), ()), (0 : Int), ((0 : Int), (0 : Int), ()), List.replicate 4 (0 : Int), ()) = mz from rfl, get_d w.2.2.1 i mz hi]
   rw [if_pos (by omega), if_pos (by omega), if_pos (by omega), wi64_id (by omega) (by omega)]
   by_cases e : ((w.2.2.1[i] : MutT).1.length : Int) > w.1.2.2.1
   ·rw [if_pos e, if_pos (by unfold stkB; simp; omega)]
   ·rw [if_neg e, if_neg (by unfold stkB; simp; omega)]; rfl
  ·simp only [r20_Form_s0, r20_Form_s0r, Bool.cond_decide]
   rw [if_neg (by omega)]
 rw [any_not] at key
 simp only [r20_Form, r20_Form_r, may20_eq, form_eq q.gh, Option.bind_some, formW]
 cases h1 : decide (mayP w.1)
 ·rfl
 cases h2 : formB w.2.1
 ·rfl
 have f := form_of q.gh h2
 simp only [Bool.not_true, cond_false, Bool.true_and, ibne, Bool.cond_decide]
 by_cases h3 : (w.2.1.2.1.length : Int) = w.1.1
 ·rw [if_neg (fun hh => hh h3), decide_eq_true h3, Bool.true_and]
  by_cases h4 : (w.2.2.1.length : Int) = w.1.2.1
  ·rw [if_neg (fun hh => hh h4), decide_eq_true h4, Bool.true_and]
   by_cases h5 : w.2.2.2.2.1 < 0
   ·rw [if_pos h5, decide_eq_false (by omega), Bool.false_and]
   by_cases h6 : w.2.2.2.2.1 > 2
   ·rw [if_neg h5, if_pos h6, decide_eq_false (by omega), Bool.false_and]
   rw [if_neg h5, if_neg h6, decide_eq_true (by omega), Bool.true_and]
   rcases key with ⟨e1, e⟩ | ⟨e1, i, hi, e⟩
   ·simp only [Bool.not_eq_false'] at e1
    simp only [e, Option.bind_some, e1, Bool.true_and, caches20_eq (w := w) (by omega), right11_eq (h := w.2.1) (c := cachesW w.2.2.1) (by rw [cachesW_len]; omega) (by omega)]
    cases decide (RightP w.2.1 (cachesW w.2.2.1))
    ·rfl
    simp only [Bool.not_true, cond_false, Bool.true_and, right17_eq f _ q.mr.bl, Option.bind_some, mkB, ibeq, Bool.cond_decide]
    by_cases h6 : w.2.2.2.2.1 = 1
    ·rw [if_pos h6, if_pos h6]
     cases rtB w.2.1 w.2.2.2.1 <;> rfl
    ·rw [if_neg h6, if_neg h6]
   ·simp only [Bool.not_eq_true'] at e1
    simp only [e, Option.bind_some, e1, Bool.false_and]
  ·rw [if_pos h4, decide_eq_false h4, Bool.false_and]
 ·rw [if_pos h3, decide_eq_false h3, Bool.false_and]
def rdyB (room : Int) (m : MutT) : Bool := if m.2.1 = 0 ∨ m.2.1 = 4 then true else if m.2.1 = 1 then decide ((m.1.length : Int) < room ∧ 0 ≤ m.2.2.1.2.1 ∧ m.2.2.1.2.1 ≤ 15) else if m.2.1 = 2 ∨ m.2.1 = 3 then decide ((m.1.length : Int) < room) else false
theorem worldReady_eq (m : MutT) (room : Int) : world_ready (m, room, ()) = some (rdyB room m, ()) := by
 simp only [world_ready, world_ready_r, ibeq, Bool.cond_decide, condn, rdyB]
 by_cases e0 : m.2.1 = 0
 ·rw [if_pos e0, if_pos (.inl e0)]
 rw [if_neg e0]
 by_cases e4 : m.2.1 = 4
 ·rw [if_pos e4, if_pos (.inr e4)]
 rw [if_neg e4, if_neg (show ¬ (m.2.1 = 0 ∨ m.2.1 = 4) by omega)]
 by_cases e1 : m.2.1 = 1
 ·rw [if_pos e1, if_pos e1]
  by_cases c1 : (m.1.length : Int) ≥ room
  ·rw [if_pos c1, decide_eq_false (by omega)]
  ·rw [if_neg c1]
   by_cases c2 : m.2.2.1.2.1 ≥ 0
   ·rw [if_pos c2]
    exact congrArg (fun b => some (b, ())) (decide_eq_decide.2 (by omega))
   ·rw [if_neg c2, decide_eq_false (by omega)]
 rw [if_neg e1, if_neg e1]
 have hd : (!decide ((m.1.length : Int) ≥ room)) = decide ((m.1.length : Int) < room) := by
  rw [← decide_not]
  exact decide_eq_decide.2 (by omega)
 rw [hd]
 by_cases e2 : m.2.1 = 2
 ·rw [if_pos e2, if_pos (.inl e2)]
 rw [if_neg e2]
 by_cases e3 : m.2.1 = 3
 ·rw [if_pos e3, if_pos (.inr e3)]
 rw [if_neg e3, if_neg (show ¬ (m.2.1 = 2 ∨ m.2.1 = 3) by omega)]
theorem rdy_iff {room : Int} {m : MutT} : rdyB room m = true ↔ 0 ≤ m.2.1 ∧ m.2.1 ≤ 4 ∧ (1 ≤ m.2.1 → m.2.1 ≤ 3 → (m.1.length : Int) < room) ∧ (m.2.1 = 1 → 0 ≤ m.2.2.1.2.1 ∧ m.2.2.1.2.1 ≤ 15) := by
 unfold rdyB
 repeat' split
 ·simp only [true_iff]; omega
 ·rw [decide_eq_true_eq]; omega
 ·rw [decide_eq_true_eq]; omega
 ·constructor
  ·intro h; cases h
  ·intro h; exfalso; omega
def rdyW (w : WrldT) : Bool := w.2.2.1.all (rdyB w.1.2.2.1)
theorem ready21_eq {w : WrldT} (hl : w.2.2.1.length ≤ 1000) : r21_Ready (w, ()) = some (rdyW w, ()) := by
 have key : ScanR (w.2.2.1.any fun m => !rdyB w.1.2.2.1 m) w.2.2.1.length (r21_Ready_l0 (0, w, ())) () (fun _ => (false, ())) := by
  unfold r21_Ready_l0
  refine scan_any (fun i => ((i : Int), w, ())) (fun i hi => ?_) ?_ (by omega) rfl
  ·simp only [r21_Ready_s0, r21_Ready_s0r, Bool.cond_decide, Int.toNat_natCast, ibeq]
   simp only [show (([] : List Val), (0 : Int), ((0 : Int), (0 : Int), (0 : Int), (0 : Int), ()), (0 : Int), ((0 : Int), (0 : Int), ()), List.replicate 4 (0 : Int), ()) = mz from rfl, get_d w.2.2.1 i mz hi]
   rw [if_pos (by omega), if_pos (by omega), if_pos (by omega), wi64_id (by omega) (by omega)]
   obtain ⟨m, hm⟩ : ∃ m : MutT, m = w.2.2.1[i] := ⟨_, rfl⟩
   rw [← hm]
   by_cases hr : rdyB w.1.2.2.1 m = true
   ·have hq := rdy_iff.1 hr
    rw [if_neg (show ¬ (!rdyB w.1.2.2.1 m) = true by simp [hr])]
    repeat' split
    all_goals first
     | rfl
     | (exfalso; omega)
   ·have hq := fun h => hr (rdy_iff.2 h)
    rw [if_pos (show (!rdyB w.1.2.2.1 m) = true by simp [hr])]
    repeat' split
    all_goals first
     | rfl
     | (exfalso; apply hq; omega)
  ·simp only [r21_Ready_s0, r21_Ready_s0r, Bool.cond_decide]
   rw [if_neg (by omega)]
 rw [any_not] at key
 simp only [r21_Ready, r21_Ready_r]
 rcases key with ⟨e1, e⟩ | ⟨e1, i, hi, e⟩
 ·simp only [Bool.not_eq_false'] at e1
  simp only [e, Option.bind_some, rdyW, e1]
 ·simp only [Bool.not_eq_true'] at e1
  simp only [e, Option.bind_some, rdyW, e1]
end Go.Proofs.YtkjpakaidjpjgaaGreatDoor.Den
/- Pure laws: what is reached, by the program. -/
namespace Go.Proofs.YtkjpakaidjpjgaaGreatDoor.Den
open Go
set_option linter.unusedVariables false
set_option linter.unusedSimpArgs false
set_option maxRecDepth 100000
theorem objRefs_eq {h : Heap} (f : FormP h) {a : Int} (ho : okA h a = true) : object_Refs (h, a, ()) = some (refsO h a, ()) := by
 have hn := f.n16
 have hl := f.len
 obtain ⟨r0, r1, r2, r3, r4⟩ := og_rng f ho
 obtain ⟨c, hc⟩ : ∃ c : Nat, (og h a).1.2.2.2.1 = c := ⟨_, (Int.toNat_of_nonneg r2).symm⟩
 have hcn : (cnt h a).toNat = c := by unfold cnt; omega
 have key : object_Refs_l0 (a, (c : Int), 0, h, [], ()) = some (.out (refsO h a, ())) := by
  unfold object_Refs_l0 refsO
  rw [hcn]
  refine iterL_run c (fun i => (a, (c : Int), (i : Int), h, rfN h a i, ())) (fun i hi => ?_) ?_ (by omega) (by simp [rfN])
  ·have hw := word_at f (a + 1 + i).toNat
   have hm := rfN_len h a i
   simp only [object_Refs_s0, object_Refs_s0r, Bool.cond_decide]
   rw [wi64_id (n := a + 1) (by omega) (by omega), wi64_id (n := a + 1 + (i : Int)) (by omega) (by omega)]
   rw [if_pos (by omega), if_pos (by omega), if_pos (by omega), wordGet_eq, wg_rg hw.1 hw.2]
   simp only [Option.bind_some, ibeq, Bool.cond_decide]
   rw [wi64_id (n := (i : Int) + 1) (by omega) (by omega), rfN_succ]
   by_cases e : (rg (h.1.getD (a + 1 + i).toNat 0)).1 = 2
   ·rw [if_pos e, if_pos (by omega), if_pos e]
    rfl
   ·rw [if_neg e, if_neg e]
    rfl
  ·simp only [object_Refs_s0, object_Refs_s0r, Bool.cond_decide]
   rw [if_neg (by omega)]
 simp only [object_Refs, object_Refs_r, objGet_eq f (a := a) (by omega) (by omega), Option.bind_some, hc, key]
def vrefs (vs : List Val) : List Int := (vs.filter fun v => decide (v.1 = 2)).map fun v => v.2.1
theorem vrefs_take (vs : List Val) (i : Nat) (hi : i < vs.length) : vrefs (vs.take (i + 1)) = if (vs[i] : Val).1 = 2 then vrefs (vs.take i) ++ [(vs[i] : Val).2.1] else vrefs (vs.take i) := by
 unfold vrefs
 rw [← List.take_append_getElem hi, List.filter_append, List.map_append]
 by_cases e : (vs[i] : Val).1 = 2 <;> simp [e]
theorem vrefs_len (vs : List Val) : (vrefs vs).length ≤ vs.length := by
 unfold vrefs
 rw [List.length_map]
 exact List.length_filter_le _ _
theorem mem_vrefs {vs : List Val} {a : Int} : a ∈ vrefs vs ↔ named vs a = true := by
 unfold vrefs named one
 rw [List.mem_map, List.any_eq_true]
 constructor
 ·rintro ⟨v, hv, rfl⟩
  rw [List.mem_filter] at hv
  have h2 := of_decide_eq_true hv.2
  exact ⟨v, hv.1, by simp [h2]⟩
 ·rintro ⟨v, hv, h⟩
  simp only [Bool.and_eq_true, beq_iff_eq] at h
  exact ⟨v, List.mem_filter.2 ⟨hv, decide_eq_true h.1⟩, h.2⟩
theorem refs14_eq {vs : List Val} (hl : vs.length ≤ 1000000) : roots_Refs (vs, ()) = some (vrefs vs, ()) := by
 have key : roots_Refs_l0 (vs, (vs.length : Int), 0, [], ()) = some (.out (vrefs vs, ())) := by
  unfold roots_Refs_l0
  refine iterL_run vs.length (fun i => (vs, (vs.length : Int), (i : Int), vrefs (vs.take i), ())) (fun i hi => ?_) ?_ (by omega) (by simp [vrefs])
  ·have h1 := vrefs_len (vs.take i)
   rw [List.length_take] at h1
   simp only [roots_Refs_s0, roots_Refs_s0r, Bool.cond_decide, ibeq]
   rw [if_pos (by omega), if_pos (by omega), if_pos (by omega), Int.toNat_natCast, get_d _ _ _ hi, wi64_id (by omega) (by omega), vrefs_take vs i hi]
   by_cases e : (vs[i] : Val).1 = 2
   ·rw [if_pos e, if_pos (by omega), if_pos e]
    rfl
   ·rw [if_neg e, if_neg e]
    rfl
  ·simp only [roots_Refs_s0, roots_Refs_s0r, Bool.cond_decide]
   rw [if_neg (by omega), List.take_length]
 simp only [roots_Refs, roots_Refs_r, key, Option.bind_some]
def ks (m : List (Int × Bool × Unit)) : List Int := m.map fun p => p.1
def AllT (m : List (Int × Bool × Unit)) : Prop := ∀ p ∈ m, p.2.1 = true
theorem mget_mem {m : List (Int × Bool × Unit)} (h : AllT m) (k : Int) : mget false m k = decide (k ∈ ks m) := by
 induction m with
 | nil => rfl
 | cons p m ih =>
  simp only [mget, ks, List.map_cons, List.mem_cons]
  have ih := ih (fun q hq => h q (List.mem_cons_of_mem _ hq))
  cases e : p.1 == k with
  | true =>
   have e := beq_iff_eq.1 e
   have := h p List.mem_cons_self
   simp [this, e]
  | false =>
   have e : ¬ p.1 = k := by simpa using e
   have e' : ¬ k = p.1 := fun h => e h.symm
   show mget false m k = _
   rw [ih]
   exact decide_eq_decide.2 ⟨fun h => .inr h, fun h => h.resolve_left e'⟩
theorem mput_new {m : List (Int × Bool × Unit)} {k : Int} (h : k ∉ ks m) : mput m k true = m ++ [(k, true, ())] := by
 induction m with
 | nil => rfl
 | cons p m ih =>
  have h1 : ¬ p.1 = k := fun e => h (by rw [← e]; exact List.mem_cons_self)
  have h2 : k ∉ ks m := fun e => h (List.mem_cons_of_mem _ e)
  simp only [mput]
  have : (p.1 == k) = false := by simpa using h1
  rw [this]
  show p :: mput m k true = _
  rw [ih h2]
  rfl
theorem insI_mem {x y : Int} : ∀ {l : List Int}, y ∈ insI x l ↔ y = x ∨ y ∈ l
 | [] => by simp [insI]
 | z :: r => by
  simp only [insI]
  cases decide (x ≤ z) with
  | true => simp
  | false =>
   show y ∈ z :: insI x r ↔ _
   rw [List.mem_cons, insI_mem (l := r), List.mem_cons]
   constructor
   ·rintro (h | h | h)
    ·exact .inr (.inl h)
    ·exact .inl h
    ·exact .inr (.inr h)
   ·rintro (h | h | h)
    ·exact .inr (.inl h)
    ·exact .inl h
    ·exact .inr (.inr h)
theorem isort_mem {y : Int} : ∀ {l : List Int}, y ∈ isort l ↔ y ∈ l
 | [] => Iff.rfl
 | x :: r => by
  show y ∈ insI x (isort r) ↔ _
  rw [insI_mem, isort_mem (l := r), List.mem_cons]
theorem insI_lt {x : Int} : ∀ {l : List Int}, l.Pairwise (· < ·) → x ∉ l → (insI x l).Pairwise (· < ·)
 | [], _, _ => by simp [insI]
 | z :: r, h, hx => by
  obtain ⟨h1, h2⟩ := List.pairwise_cons.1 h
  have hz : ¬ x = z := fun e => hx (by rw [e]; exact List.mem_cons_self)
  simp only [insI]
  cases hd : decide (x ≤ z) with
  | true =>
   have hd := of_decide_eq_true hd
   refine List.pairwise_cons.2 ⟨fun w hw => ?_, h⟩
   rcases List.mem_cons.1 hw with rfl | hw
   ·omega
   ·have := h1 w hw; omega
  | false =>
   have hd := of_decide_eq_false hd
   refine List.pairwise_cons.2 ⟨fun w hw => ?_, insI_lt h2 (fun e => hx (List.mem_cons_of_mem _ e))⟩
   rcases insI_mem.1 hw with rfl | hw
   ·omega
   ·exact h1 w hw
theorem isort_lt : ∀ {l : List Int}, l.Nodup → (isort l).Pairwise (· < ·)
 | [], _ => List.Pairwise.nil
 | x :: r, h => by
  obtain ⟨h1, h2⟩ := List.nodup_cons.1 h
  exact insI_lt (isort_lt h2) (fun e => h1 (isort_mem.1 e))
theorem sorted_ext {l m : List Int} (hl : l.Pairwise (· < ·)) (hm : m.Pairwise (· < ·)) (h : ∀ x, x ∈ l ↔ x ∈ m) : l = m := by
 have dl : l.Nodup := hl.imp (fun h => by omega)
 have dm : m.Nodup := hm.imp (fun h => by omega)
 have hp : l.Perm m := (List.perm_ext_iff_of_nodup dl dm).2 h
 exact hp.eq_of_pairwise (le := fun a b => a < b) (fun a b _ _ h1 h2 => by omega) hl hm
structure RchI (h : Heap) (vs : List Val) (seen : List (Int × Bool × Unit)) (todo : List Int) : Prop where
 all : AllT seen
 nd : (ks seen).Nodup
 ok : ∀ a ∈ ks seen, Rch h vs a
 td : ∀ a ∈ todo, okA h a = true → Rch h vs a
 roots : ∀ a, okA h a = true → named vs a = true → a ∈ ks seen ∨ a ∈ todo
 cl : ∀ a ∈ ks seen, ∀ b ∈ refsO h a, okA h b = true → b ∈ ks seen ∨ b ∈ todo
theorem nodup_len {l : List Int} (hd : l.Nodup) {n : Nat} (h : ∀ a ∈ l, 0 ≤ a ∧ a < (n : Int)) : l.length ≤ n := by
 have hs : l ⊆ (List.range n).map fun (i : Nat) => (i : Int) := by
  intro a ha
  obtain ⟨h1, h2⟩ := h a ha
  refine List.mem_map.2 ⟨a.toNat, List.mem_range.2 (by omega), by omega⟩
 have := hd.length_le_of_subset hs
 simpa using this
theorem RchI.len {h : Heap} (f : FormP h) {vs : List Val} {seen : List (Int × Bool × Unit)} {todo : List Int} (q : RchI h vs seen todo) : seen.length ≤ 512 := by
 have hn := f.n16
 have : (ks seen).length ≤ 512 := nodup_len q.nd (fun a ha => by
  have := og_rng f (q.ok a ha).ok
  omega)
 simpa [ks] using this
theorem from_eq {h : Heap} (f : FormP h) {vs : List Val} (hv : vs.length ≤ 1000000) (hw : ∀ v : Val, v ∈ vs → -9223372036854775808 ≤ v.2.1 ∧ v.2.1 < 9223372036854775808) : reach_From (h, vs, ()) = some ((lst h).filter (rchB h vs), ()) := by
 have hn := f.n16
 have rf := fun {a : Int} (ho : okA h a = true) => og_rng f ho
 have key : ∃ l, reach_From_l0 (h, [], vrefs vs, ()) = some l ∧ ∃ seen, l = .out (seen, ()) ∧ RchI h vs seen [] := by
  unfold reach_From_l0
  refine iterL_rule (fun n x => ∃ (seen : List (Int × Bool × Unit)) (todo : List Int), x = (h, seen, todo, ()) ∧ RchI h vs seen todo ∧ n = (512 - seen.length) * 17 + todo.length ∧ todo.length ≤ 1000000 + 17 * seen.length ∧ ∀ a ∈ todo, -9223372036854775808 ≤ a ∧ a < 9223372036854775808) ?_ _ ((512 - 0) * 17 + (vrefs vs).length) _ (by have := vrefs_len vs; omega) ⟨[], vrefs vs, rfl, ⟨fun p hp => (by cases hp), List.nodup_nil, fun a ha => (by cases ha), fun a ha ho => .base ho (mem_vrefs.1 ha), fun a ho hn => .inr (mem_vrefs.2 hn), fun a ha => (by cases ha)⟩, rfl, by have := vrefs_len vs; simp; omega, fun a ha => ?_⟩
  rotate_left
  ·unfold vrefs at ha
   obtain ⟨v, hv', rfl⟩ := List.mem_map.1 ha
   exact hw v (List.mem_filter.1 hv').1
  rintro n x ⟨seen, todo, rfl, q, rfl, htl, hrng⟩
  have hsl := q.len f
  simp only [reach_From_s0, reach_From_s0r, Bool.cond_decide]
  rcases List.eq_nil_or_concat todo with rfl | ⟨td, a, rfl⟩
  ·rw [if_neg (by simp)]
   exact .inr ⟨_, rfl, seen, rfl, q⟩
  ·have hla : (td.concat a).length = td.length + 1 := by simp
   have hwi : wi64 (((td.concat a).length : Int) - 1) = (td.length : Int) := by rw [wi64_id (by omega) (by omega)]; omega
   have hget : (td.concat a).getD td.length 0 = a := by simp [List.concat_eq_append]
   have htake : ((td.concat a).drop 0).take (td.length - 0) = td := by simp [List.concat_eq_append]
   have har := hrng a (by simp)
   have hsub : ∀ {b : Int}, b ∈ td → b ∈ td.concat a := fun hb => by simp [hb]
   have hmem : ∀ {b : Int}, b ∈ td.concat a → b = a ∨ b ∈ td := fun {b} hb => by
    rw [List.concat_eq_append, List.mem_append, List.mem_singleton] at hb
    exact hb.symm
   rw [hwi, Int.toNat_natCast, hget, htake]
   rw [if_pos (by omega), if_pos (by omega), if_pos (by omega), if_pos (by omega), if_pos (by omega), objGet_eq f har.1 har.2]
   simp only [Option.bind_some]
   cases ho : (og h a).2.1 with
   | false =>
    refine .inl ⟨(512 - seen.length) * 17 + td.length, _, by omega, rfl, seen, td, rfl, ⟨q.all, q.nd, q.ok, fun b hb => q.td b (hsub hb), fun b hb hn => ?_, fun c hc b hb hbo => ?_⟩, rfl, by omega, fun b hb => hrng b (hsub hb)⟩
    ·rcases q.roots b hb hn with h1 | h1
     ·exact .inl h1
     ·rcases hmem h1 with rfl | h1
      ·rw [show okA h b = (og h b).2.1 from rfl, ho] at hb; cases hb
      ·exact .inr h1
    ·rcases q.cl c hc b hb hbo with h1 | h1
     ·exact .inl h1
     ·rcases hmem h1 with rfl | h1
      ·rw [show okA h b = (og h b).2.1 from rfl, ho] at hbo; cases hbo
      ·exact .inr h1
   | true =>
    have hr : Rch h vs a := q.td a (by simp) ho
    rw [mget_mem q.all]
    simp only [Bool.not_true, cond_false, Bool.cond_decide]
    by_cases hs : a ∈ ks seen
    ·rw [if_pos hs]
     refine .inl ⟨(512 - seen.length) * 17 + td.length, _, by omega, rfl, seen, td, rfl, ⟨q.all, q.nd, q.ok, fun b hb => q.td b (hsub hb), fun b hb hn => ?_, fun c hc b hb hbo => ?_⟩, rfl, by omega, fun b hb => hrng b (hsub hb)⟩
     ·rcases q.roots b hb hn with h1 | h1
      ·exact .inl h1
      ·rcases hmem h1 with rfl | h1
       ·exact .inl hs
       ·exact .inr h1
     ·rcases q.cl c hc b hb hbo with h1 | h1
      ·exact .inl h1
      ·rcases hmem h1 with rfl | h1
       ·exact .inl hs
       ·exact .inr h1
    ·rw [if_neg hs, if_pos (by omega), objRefs_eq f ho]
     have hrl := refsO_len f ho
     have hr15 : (refsO h a).length ≤ 15 := by
      have h1 := rfN_len h a (cnt h a).toNat
      have h2 := (og_rng f ho).2.2.2.2
      unfold refsO cnt at *
      omega
     simp only [Option.bind_some]
     rw [if_pos (by omega), mput_new hs]
     have hks : ks (seen ++ [(a, true, ())]) = ks seen ++ [a] := by simp [ks]
     have q2 : RchI h vs (seen ++ [(a, true, ())]) (td ++ refsO h a) := by
      refine ⟨fun p hp => ?_, ?_, fun b hb => ?_, fun b hb hbo => ?_, fun b hb hn => ?_, fun c hc b hb hbo => ?_⟩
      ·rcases List.mem_append.1 hp with hp | hp
       ·exact q.all p hp
       ·rw [List.mem_singleton] at hp; rw [hp]
      ·rw [hks]
       exact List.nodup_append.2 ⟨q.nd, by simp, fun x hx y hy => by rw [List.mem_singleton] at hy; rintro rfl; rw [hy] at hx; exact hs hx⟩
      ·rw [hks] at hb
       rcases List.mem_append.1 hb with hb | hb
       ·exact q.ok b hb
       ·rw [List.mem_singleton] at hb; rw [hb]; exact hr
      ·rcases List.mem_append.1 hb with hb | hb
       ·exact q.td b (hsub hb) hbo
       ·exact .step hr hb hbo
      ·rw [hks]
       rcases q.roots b hb hn with h1 | h1
       ·exact .inl (List.mem_append_left _ h1)
       ·rcases hmem h1 with rfl | h1
        ·exact .inl (by simp)
        ·exact .inr (List.mem_append_left _ h1)
      ·rw [hks] at hc ⊢
       rcases List.mem_append.1 hc with hc | hc
       ·rcases q.cl c hc b hb hbo with h1 | h1
        ·exact .inl (List.mem_append_left _ h1)
        ·rcases hmem h1 with rfl | h1
         ·exact .inl (by simp)
         ·exact .inr (List.mem_append_left _ h1)
       ·rw [List.mem_singleton] at hc
        rw [hc] at hb
        exact .inr (List.mem_append_right _ hb)
     have hl2 := q2.len f
     rw [List.length_append, List.length_singleton] at hl2
     refine .inl ⟨(512 - (seen ++ [(a, true, ())]).length) * 17 + (td ++ refsO h a).length, _, ?_, rfl, _, _, rfl, q2, rfl, ?_, fun b hb => ?_⟩
     ·simp only [List.length_append, List.length_singleton]; omega
     ·simp only [List.length_append, List.length_singleton]; omega
     ·rcases List.mem_append.1 hb with hb | hb
      ·exact hrng b (hsub hb)
      ·unfold refsO rfN at hb
       obtain ⟨v, hv2, rfl⟩ := List.mem_map.1 hb
       obtain ⟨j, _, rfl⟩ := List.mem_map.1 (List.mem_filter.1 hv2).1
       exact rg_rng _
 obtain ⟨l, e, seen, rfl, q⟩ := key
 have hsl := q.len f
 simp only [reach_From, reach_From_r, refs14_eq hv, Option.bind_some, e, Bool.cond_decide]
 have hall : (seen.all fun p => inI64 p.1) = true := by
  rw [List.all_eq_true]
  intro p hp
  have := rf (q.ok p.1 (List.mem_map.2 ⟨p, hp, rfl⟩)).ok
  simp only [inI64, Bool.and_eq_true, decide_eq_true_eq]
  omega
 rw [hall]
 simp only [cond_true]
 rw [if_pos (by omega)]
 have : isort (ks seen) = (lst h).filter (rchB h vs) := by
  refine sorted_ext (isort_lt q.nd) (List.Pairwise.filter _ (lst_sorted h)) (fun x => ?_)
  rw [isort_mem, List.mem_filter, mem_lst f, rchB_iff]
  constructor
  ·intro hx
   exact ⟨(q.ok x hx).ok, q.ok x hx⟩
  ·rintro ⟨-, hx⟩
   induction hx with
   | base ho hn => exact (q.roots _ ho hn).elim id (fun h => by cases h)
   | step _ hb ho ih => exact (q.cl _ ih _ hb ho).elim id (fun h => by cases h)
 rw [show (seen.map fun p => p.1) = ks seen from rfl, this]
end Go.Proofs.YtkjpakaidjpjgaaGreatDoor.Den
/- Pure laws: is a heap sound? -/
namespace Go.Proofs.YtkjpakaidjpjgaaGreatDoor.Den
open Go
set_option linter.unusedVariables false
set_option linter.unusedSimpArgs false
set_option maxRecDepth 100000
theorem scan_all {h o r : U} {step : h.T → Option (SRes h o r)} {P : Nat → Bool} {n : Nat} {lo : o.T} {c : r.T} (g : Nat → h.T)
  (hs : ∀ i, i < n → step (g i) = if P i = true then some (.next (g (i + 1))) else some (.fin (.ret c)))
  (he : step (g n) = some (.fin (.out lo))) {fuel : Nat} (hf : n < fuel) {x : h.T} (hx : x = g 0) :
  iterL step fuel x = some (if (List.range n).all P = true then .out lo else .ret c) := by
 rcases scan_rule n g (fun i => !P i) lo (fun _ => c) (fun i hi => by rw [hs i hi]; cases P i <;> rfl) he hf hx with ⟨h1, e⟩ | ⟨i, hi, h2, _, e⟩
 ·rw [e, if_pos]
  rw [List.all_eq_true]
  intro i hi
  simpa using h1 i (List.mem_range.1 hi)
 ·rw [e, if_neg]
  intro ha
  have := List.all_eq_true.1 ha i (List.mem_range.2 hi)
  simp [this] at h2
def clrB (h : Heap) (a n : Nat) : Bool := ((h.1.drop a).take n).all fun x => decide (x = 0)
theorem clr_at {h : Heap} {a n : Nat} (hl : a + n ≤ h.1.length) {i : Nat} (hi : i < ((h.1.drop a).take n).length) : ((h.1.drop a).take n)[i] = h.1.getD (a + i) 0 := by
 rw [List.length_take, List.length_drop] at hi
 rw [List.getElem_take, List.getElem_drop, get_d _ _ _ (by omega)]
theorem clr_len {h : Heap} {a n : Nat} (hl : a + n ≤ h.1.length) : ((h.1.drop a).take n).length = n := by
 rw [List.length_take, List.length_drop]; omega
theorem clear_eq {h : Heap} {a n : Nat} (hl : a + n ≤ h.1.length) (h5 : h.1.length ≤ 512) : sound_whole_clear ((h, ()), (a : Int), ((a + n : Nat) : Int), ()) = some (clrB h a n, ()) := by
 have hn := clr_len hl
 have key : ScanR (((h.1.drop a).take n).any fun x => !decide (x = 0)) ((h.1.drop a).take n).length (sound_whole_clear_l0 ((h.1.drop a).take n, (((h.1.drop a).take n).length : Int), 0, ())) () (fun i => ((i : Int), ())) := by
  unfold sound_whole_clear_l0
  refine scan_any (fun i => ((h.1.drop a).take n, (((h.1.drop a).take n).length : Int), (i : Int), ())) (fun i hi => ?_) ?_ (by omega) rfl
  ·simp only [sound_whole_clear_s0, sound_whole_clear_s0r, sound_whole_clear_1, sound_whole_clear_1_r, Bool.cond_decide, Int.toNat_natCast, get_d _ _ _ hi, Option.bind_some, ibne]
   rw [if_pos (by omega), if_pos (by omega), if_pos (by omega), wi64_id (by omega) (by omega)]
   by_cases e : ((h.1.drop a).take n)[i] = 0
   ·rw [if_neg (fun hh => hh e), if_neg (by simp [e])]; rfl
   ·rw [if_pos e, if_pos (by simpa using e)]
  ·simp only [sound_whole_clear_s0, sound_whole_clear_s0r, Bool.cond_decide]
   rw [if_neg (by omega)]
 rw [any_not] at key
 simp only [sound_whole_clear, sound_whole_clear_r, Bool.cond_decide]
 rw [if_pos (by omega), if_pos (by omega), if_pos (by omega)]
 rw [show ((a + n : Nat) : Int).toNat - (a : Int).toNat = n by omega, Int.toNat_natCast]
 rcases key with ⟨e1, e⟩ | ⟨e1, i, hi, e⟩
 ·simp only [Bool.not_eq_false'] at e1
  simp only [e, Option.bind_some, clrB, e1]
 ·simp only [Bool.not_eq_true'] at e1
  simp only [e, Option.bind_some, clrB, e1]
  rw [decide_eq_true (p := (i : Int) ≥ 0) (by omega)]; rfl
theorem nought_eq {h : Heap} {a n : Nat} (hl : a + n ≤ h.1.length) (h5 : h.1.length ≤ 512) : r09_nought (h, (a : Int), (n : Int), ()) = some (clrB h a n, ()) := by
 have hn := clr_len hl
 have key : ScanR (((h.1.drop a).take n).any fun x => !decide (x = 0)) ((h.1.drop a).take n).length (r09_nought_l0 ((a : Int), (n : Int), 0, h, ())) () (fun _ => (false, ())) := by
  unfold r09_nought_l0
  refine scan_any (fun i => ((a : Int), (n : Int), (i : Int), h, ())) (fun i hi => ?_) ?_ (by omega) rfl
  ·simp only [r09_nought_s0, r09_nought_s0r, Bool.cond_decide, ibne]
   rw [if_pos (show (i : Int) < (n : Int) by omega), wi64_id (n := (a : Int) + (i : Int)) (by omega) (by omega), if_pos (show (0 : Int) ≤ (a : Int) + (i : Int) by omega), if_pos (show (a : Int) + (i : Int) < (h.1.length : Int) by omega), wi64_id (n := (i : Int) + 1) (by omega) (by omega), show ((a : Int) + (i : Int)).toNat = a + i by omega, ← clr_at hl hi]
   by_cases e : ((h.1.drop a).take n)[i] = 0
   ·rw [if_neg (fun hh => hh e), if_neg (by simp [e])]; rfl
   ·rw [if_pos e, if_pos (by simpa using e)]
  ·simp only [r09_nought_s0, r09_nought_s0r, Bool.cond_decide]
   rw [if_neg (show ¬ ((((h.1.drop a).take n).length : Int) < (n : Int)) by omega)]
 rw [any_not] at key
 simp only [r09_nought, r09_nought_r]
 rcases key with ⟨e1, e⟩ | ⟨e1, i, hi, e⟩
 ·simp only [Bool.not_eq_false'] at e1
  simp only [e, Option.bind_some, clrB, e1]
 ·simp only [Bool.not_eq_true'] at e1
  simp only [e, Option.bind_some, clrB, e1]
theorem pg_class {h : Heap} (f : FormP h) {p : Nat} (hp : p < h.2.1.length) : ∃ w b : Nat, cw (h.2.1.getD p sz).2.1 = w ∧ cb (h.2.1.getD p sz).2.1 = b ∧ ((w = 2 ∧ b = 16) ∨ (w = 4 ∧ b = 8) ∨ (w = 8 ∧ b = 4) ∨ (w = 16 ∧ b = 2)) ∧ w * b = 32 := by
 have hm : h.2.1.getD p sz ∈ h.2.1 := by rw [get_d _ _ _ hp]; exact List.getElem_mem hp
 have hr := f.right _ hm
 have hc : 0 ≤ (h.2.1.getD p sz).2.1 ∧ (h.2.1.getD p sz).2.1 ≤ 3 := by
  by_cases hu : (h.2.1.getD p sz).1 = 0
  ·unfold rightB at hr
   rw [if_pos hu] at hr
   have := of_decide_eq_true hr
   omega
  ·exact f.span hm hu
 rcases class4 hc.1 hc.2 with ⟨a, c⟩ | ⟨a, c⟩ | ⟨a, c⟩ | ⟨a, c⟩
 ·exact ⟨2, 16, a, c, by omega, rfl⟩
 ·exact ⟨4, 8, a, c, by omega, rfl⟩
 ·exact ⟨8, 4, a, c, by omega, rfl⟩
 ·exact ⟨16, 2, a, c, by omega, rfl⟩
theorem pg_free {h : Heap} (q : HP h) {p : Nat} (hp : p < h.2.1.length) : 0 ≤ (h.2.1.getD p sz).2.2.1 ∧ (h.2.1.getD p sz).2.2.1 < 4294967296 := by
 have hm : h.2.1.getD p sz ∈ h.2.1 := by rw [get_d _ _ _ hp]; exact List.getElem_mem hp
 have h0 := q.fr _ hm
 have := rightB_free (q.f.right _ hm) h0
 omega
def pgW (h : Heap) (p : Nat) : Nat := (cw (h.2.1.getD p sz).2.1).toNat
def pgN (h : Heap) (p : Nat) : Nat := (cb (h.2.1.getD p sz).2.1).toNat
def blA (h : Heap) (p i : Nat) : Nat := 32 * p + i * pgW h p
def freB (h : Heap) (p i : Nat) : Bool := bit (h.2.1.getD p sz).2.2.1 i
def stP (h : Heap) (p : Nat) : Int := (h.2.1.getD p sz).1
structure Blk (h : Heap) (p i w b : Nat) : Prop where
 w_ : pgW h p = w
 b_ : pgN h p = b
 cw_ : cw (h.2.1.getD p sz).2.1 = w
 cb_ : cb (h.2.1.getD p sz).2.1 = b
 a_ : blA h p i = 32 * p + i * w
 in_ : i * w + w ≤ 32
 two : 2 ≤ w
 wb : (w = 2 ∧ b = 16) ∨ (w = 4 ∧ b = 8) ∨ (w = 8 ∧ b = 4) ∨ (w = 16 ∧ b = 2)
 md : (i * w) % w = 0
theorem blk_of {h : Heap} (f : FormP h) {p : Nat} (hp : p < h.2.1.length) : ∃ w b : Nat, pgW h p = w ∧ pgN h p = b ∧ cb (h.2.1.getD p sz).2.1 = b ∧ b ≤ 16 ∧ ∀ i, i < b → Blk h p i w b := by
 obtain ⟨w, b, e1, e2, e3, e4⟩ := pg_class f hp
 have hw : pgW h p = w := by unfold pgW; rw [e1]; rfl
 have hb : pgN h p = b := by unfold pgN; rw [e2]; rfl
 refine ⟨w, b, hw, hb, e2, by omega, fun i hi => ⟨hw, hb, e1, e2, by unfold blA; rw [hw], ?_, by omega, e3, Nat.mul_mod_left i w⟩⟩
 rw [← Nat.succ_mul, ← e4, Nat.mul_comm w b]
 exact Nat.mul_le_mul_right _ hi
theorem at_prog {p i w : Nat} (hp : p ≤ 16) (hk : i * w ≤ 32) : wi64 ((wi64 ((p : Int) * 32)) + (wi64 ((i : Int) * (w : Int)))) = ((32 * p + i * w : Nat) : Int) := by
 rw [show (i : Int) * (w : Int) = ((i * w : Nat) : Int) from (Int.natCast_mul i w).symm]
 generalize i * w = k at hk
 rw [wi64_id (n := (p : Int) * 32) (by omega) (by omega), wi64_id (n := (k : Int)) (by omega) (by omega), wi64_id (by omega) (by omega)]
 omega
theorem at_ref {p i w : Nat} (hp : p ≤ 16) (hk : i * w ≤ 32) : wi64 ((wi64 (32 * (p : Int))) + (wi64 ((i : Int) * (w : Int)))) = ((32 * p + i * w : Nat) : Int) := by
 rw [show (i : Int) * (w : Int) = ((i * w : Nat) : Int) from (Int.natCast_mul i w).symm]
 generalize i * w = k at hk
 rw [wi64_id (n := 32 * (p : Int)) (by omega) (by omega), wi64_id (n := (k : Int)) (by omega) (by omega), wi64_id (by omega) (by omega)]
 omega
def filB (h : Heap) (p i : Nat) : Bool := if freB h p i = true then clrB h (blA h p i) (pgW h p) else okA h (blA h p i) && decide ((og h (blA h p i)).1.2.2.1 = (h.2.1.getD p sz).2.1)
def behB (h : Heap) (p i : Nat) : Bool := freB h p i || clrB h (blA h p i + 1 + (cnt h (blA h p i)).toNat) (pgW h p - 1 - (cnt h (blA h p i)).toNat)
def refB (h : Heap) (p i : Nat) : Bool := !(decide (stP h p = 1) || bk h (blA h p i)) || (refsO h (blA h p i)).all (okA h)
def pgB (h : Heap) (P : Nat → Nat → Bool) (p : Nat) : Bool := (List.range (pgN h p)).all fun i => decide (stP h p = 0) || P p i
def pgsB (h : Heap) (P : Nat → Nat → Bool) : Bool := (List.range h.2.1.length).all (pgB h P)
def frsB (h : Heap) : Bool := (List.range h.2.1.length).all fun p => !decide (stP h p = 0) || clrB h (32 * p) 32
def filledB (h : Heap) : Bool := frsB h && pgsB h (filB h)
theorem pgB_all {h : Heap} {P : Nat → Nat → Bool} {p : Nat} : pgB h P p = true ↔ (stP h p ≠ 0 → ∀ i, i < pgN h p → P p i = true) := by
 unfold pgB
 rw [List.all_eq_true]
 constructor
 ·intro h0 hs i hi
  have := h0 i (List.mem_range.2 hi)
  simpa [hs] using this
 ·intro h0 i hi
  by_cases e : stP h p = 0
  ·simp [e]
  ·simp [h0 e i (List.mem_range.1 hi)]
theorem ok_cnt {h : Heap} (f : FormP h) {a : Int} (ho : okA h a = true) : 0 ≤ cnt h a ∧ cnt h a < cw (og h a).1.2.2.1 := by
 have hh := og_ok ho
 have hk := hh.2.1
 have e : og h a = (hd (h.1.getD a.toNat 0), true, ()) := hh.2.2.2
 unfold cnt
 rw [e]
 show 0 ≤ h.1.getD a.toNat 0 % 16 ∧ h.1.getD a.toNat 0 % 16 < cw (h.1.getD a.toNat 0 / 16 % 4)
 unfold hok at hk
 simp only [Bool.and_eq_true, decide_eq_true_eq] at hk
 have h4 : h.1.getD a.toNat 0 / 16 % 4 = 0 ∨ h.1.getD a.toNat 0 / 16 % 4 = 1 ∨ h.1.getD a.toNat 0 / 16 % 4 = 2 ∨ h.1.getD a.toNat 0 / 16 % 4 = 3 := by omega
 rcases h4 with e4 | e4 | e4 | e4 <;> rw [e4] at hk ⊢ <;> simp [cw] at hk ⊢ <;> omega
theorem og_no {h : Heap} {a : Int} (ho : okA h a = false) : og h a = (hz, false, ()) := by
 unfold okA og at ho
 unfold og
 split
 ·rename_i e
  rw [if_pos e] at ho
  cases ho
 ·rfl
theorem cnt_no {h : Heap} {a : Int} (ho : okA h a = false) : cnt h a = 0 := by unfold cnt; rw [og_no ho]; rfl
theorem refs_no {h : Heap} {a : Int} (ho : okA h a = false) : refsO h a = [] := by unfold refsO; rw [cnt_no ho]; rfl
theorem objRefs_no {h : Heap} (f : FormP h) {a : Int} (l : -9223372036854775808 ≤ a) (u : a < 9223372036854775808) (ho : okA h a = false) : object_Refs (h, a, ()) = some (refsO h a, ()) := by
 have key : object_Refs_l0 (a, 0, 0, h, [], ()) = some (.out ([], ())) := by
  unfold object_Refs_l0
  refine iterL_run 0 (fun i => (a, 0, (i : Int), h, [], ())) (fun i hi => by omega) ?_ (by omega) rfl
  simp only [object_Refs_s0, object_Refs_s0r, Bool.cond_decide]
  rw [if_neg (by omega)]
 simp only [object_Refs, object_Refs_r, objGet_eq f l u, Option.bind_some, og_no ho, hz, key, refs_no ho]
theorem objRefs_all {h : Heap} (f : FormP h) {a : Int} (l : -9223372036854775808 ≤ a) (u : a < 9223372036854775808) : object_Refs (h, a, ()) = some (refsO h a, ()) := by
 cases ho : okA h a with
 | true => exact objRefs_eq f ho
 | false => exact objRefs_no f l u ho
theorem filled_eq {h : Heap} (q : HP h) : sound_whole_filled ((h, ()), ()) = some (filledB h, ()) := by
 have f := q.f
 have hn := f.n16
 have hl := f.len
 have k0 : sound_whole_filled_l0 (h.2.1, (h.2.1.length : Int), 0, (h, ()), ()) = some (if frsB h = true then .out ((h, ()), ()) else .ret (false, ())) := by
  unfold sound_whole_filled_l0
  refine scan_all (fun p => (h.2.1, (h.2.1.length : Int), (p : Int), (h, ()), ())) (fun p hp => ?_) ?_ (by omega) rfl
  ·simp only [sound_whole_filled_s0, sound_whole_filled_s0r, Bool.cond_decide, Int.toNat_natCast, ibeq]
   simp only [show ((0 : Int), (0 : Int), (0 : Int), ()) = sz from rfl]
   rw [if_pos (by omega), if_pos (by omega), if_pos (by omega), wi64_id (n := (p : Int) * 32) (by omega) (by omega), wi64_id (n := (p : Int) + 1) (by omega) (by omega), wi64_id (n := ((p : Int) + 1) * 32) (by omega) (by omega)]
   have e := clear_eq (h := h) (a := 32 * p) (n := 32) (by omega) (by omega)
   rw [show (((32 * p : Nat) : Nat) : Int) = (p : Int) * 32 by omega, show ((32 * p + 32 : Nat) : Int) = ((p : Int) + 1) * 32 by omega] at e
   rw [e, Option.bind_some]
   by_cases hs : (h.2.1.getD p sz).1 = 0
   ·rw [if_pos hs]
    simp only [stP, hs, decide_true, Bool.not_true, Bool.false_or]
    cases clrB h (32 * p) 32 <;> rfl
   ·rw [if_neg hs]
    simp only [stP, hs, decide_false, Bool.not_false, Bool.true_or, if_true]
    rfl
  ·simp only [sound_whole_filled_s0, sound_whole_filled_s0r, Bool.cond_decide]
   rw [if_neg (by omega)]
 have k1 : ∀ p : Nat, p < h.2.1.length → sound_whole_filled_l1 ((p : Int), h.2.1, (h.2.1.length : Int), (p : Int), cb (h.2.1.getD p sz).2.1, 0, (h, ()), h.2.1.getD p sz, ()) = some (if pgB h (filB h) p = true then .out (h.2.1, (h.2.1.length : Int), (p : Int), (h, ()), ()) else .ret (false, ())) := by
  intro p hp
  obtain ⟨w, b, hw, hb, ec, b16, hB⟩ := blk_of f hp
  obtain ⟨f0, f1⟩ := pg_free q hp
  unfold sound_whole_filled_l1 pgB
  rw [hb, ec]
  refine scan_all (fun i => ((p : Int), h.2.1, (h.2.1.length : Int), (p : Int), (b : Int), (i : Int), (h, ()), h.2.1.getD p sz, ())) (fun i hi => ?_) ?_ (by omega) rfl
  ·have B := hB i hi
   have hwb := B.wb
   have hin := B.in_
   have hB2 := B.two
   simp only [sound_whole_filled_s1, sound_whole_filled_s1r, Bool.cond_decide, ibne, class_Words_eq, Option.bind_some, B.cw_, Int.toNat_natCast]
   simp only [show ((0 : Int), (0 : Int), (0 : Int), ()) = sz from rfl, B.cw_]
   rw [if_pos (by omega)]
   by_cases hs : (h.2.1.getD p sz).1 = 0
   ·rw [if_neg (fun hh => hh hs), wi64_id (n := (i : Int) + 1) (by omega) (by omega)]
    simp only [stP, hs, decide_true, Bool.true_or, if_true]
    rfl
   ·rw [if_pos hs, hasP_eq f0 f1, Option.bind_some, if_pos (show (0 : Int) ≤ (p : Int) by omega), if_pos (show (p : Int) < (h.2.1.length : Int) by omega)]
    rw [at_prog (by omega) (by omega), wi64_id (n := (i : Int) + 1) (by omega) (by omega)]
    rw [decide_eq_true (p := (0 : Int) ≤ (i : Int) ∧ (i : Int) ≤ 31) (by omega), Bool.true_and, Int.toNat_natCast]
    have ea : ((32 * p + i * w : Nat) : Int) = (blA h p i : Int) := by rw [B.a_]
    have eb : blA h p i + w ≤ h.1.length := by rw [B.a_]; omega
    rw [ea]
    simp only [stP, hs, decide_false, Bool.false_or, filB, freB, B.w_]
    have ec := clear_eq (h := h) (a := blA h p i) (n := w) eb (by omega)
    rw [wi64_id (n := (blA h p i : Int) + (w : Int)) (by omega) (by omega), show (blA h p i : Int) + (w : Int) = ((blA h p i + w : Nat) : Int) by omega, ec, Option.bind_some, objGet_eq f (by omega) (by omega), Option.bind_some]
    cases bit (h.2.1.getD p sz).2.2.1 i
    ·simp only [cond_false, if_false, Bool.false_eq_true]
     unfold okA
     cases (og h (blA h p i)).2.1
     ·rfl
     ·simp only [cond_true, Bool.true_and, ibeq, Bool.cond_decide]
      by_cases e : (og h (blA h p i)).1.2.2.1 = (h.2.1.getD p sz).2.1
      ·simp [e]
      ·simp [e]
    ·simp only [cond_true, if_true]
     cases clrB h (blA h p i) w <;> rfl
  ·simp only [sound_whole_filled_s1, sound_whole_filled_s1r, Bool.cond_decide]
   rw [if_neg (by omega)]
 have k2 : sound_whole_filled_l2 (h.2.1, (h.2.1.length : Int), 0, (h, ()), ()) = some (if pgsB h (filB h) = true then .out () else .ret (false, ())) := by
  unfold sound_whole_filled_l2
  refine scan_all (fun p => (h.2.1, (h.2.1.length : Int), (p : Int), (h, ()), ())) (fun p hp => ?_) ?_ (by omega) rfl
  ·simp only [sound_whole_filled_s2, sound_whole_filled_s2r, Bool.cond_decide, Int.toNat_natCast, class_Blocks_eq, Option.bind_some]
   simp only [show ((0 : Int), (0 : Int), (0 : Int), ()) = sz from rfl]
   rw [if_pos (by omega), if_pos (by omega), if_pos (by omega), k1 p hp, Option.bind_some]
   cases pgB h (filB h) p
   ·rfl
   ·simp only [if_true]
    rw [wi64_id (n := (p : Int) + 1) (by omega) (by omega)]
    rfl
  ·simp only [sound_whole_filled_s2, sound_whole_filled_s2r, Bool.cond_decide]
   rw [if_neg (by omega)]
 simp only [sound_whole_filled, sound_whole_filled_r, k0, Option.bind_some, filledB]
 cases frsB h
 ·rfl
 ·simp only [if_true, k2, Option.bind_some, Bool.true_and]
  cases pgsB h (filB h) <;> rfl
def behindB (h : Heap) : Bool := pgsB h (behB h)
def referB (h : Heap) : Bool := pgsB h (refB h)
theorem clr_word {h : Heap} {a n i : Nat} (hl : a + n ≤ h.1.length) (hc : clrB h a n = true) (hi : i < n) : h.1.getD (a + i) 0 = 0 := by
 have hn := clr_len hl
 have := List.all_eq_true.1 hc _ (List.getElem_mem (by omega : i < ((h.1.drop a).take n).length))
 rw [clr_at hl (by omega)] at this
 exact of_decide_eq_true this
theorem clr_of {h : Heap} {a n : Nat} (hl : a + n ≤ h.1.length) (hc : ∀ i, i < n → h.1.getD (a + i) 0 = 0) : clrB h a n = true := by
 have hn := clr_len hl
 unfold clrB
 rw [List.all_eq_true]
 intro x hx
 obtain ⟨i, hi, rfl⟩ := List.mem_iff_getElem.1 hx
 rw [clr_at hl hi]
 exact decide_eq_true (hc i (by omega))
theorem not_ok_zero {h : Heap} {a : Int} (hz : h.1.getD a.toNat 0 = 0) : okA h a = false := by
 cases ho : okA h a with
 | false => rfl
 | true =>
  have := (og_ok ho).2.1
  rw [hz] at this
  simp [hok] at this
theorem behind_eq {h : Heap} (q : HP h) (hf : filledB h = true) : sound_whole_behind ((h, ()), ()) = some (behindB h, ()) := by
 have f := q.f
 have hn := f.n16
 have hl := f.len
 unfold filledB at hf
 simp only [Bool.and_eq_true] at hf
 have hfil : ∀ p, p < h.2.1.length → stP h p ≠ 0 → ∀ i, i < pgN h p → filB h p i = true := fun p hp => pgB_all.1 (List.all_eq_true.1 hf.2 p (List.mem_range.2 hp))
 have k1 : ∀ p : Nat, p < h.2.1.length → sound_whole_behind_l0 ((p : Int), h.2.1, (h.2.1.length : Int), (p : Int), cb (h.2.1.getD p sz).2.1, 0, (h, ()), h.2.1.getD p sz, ()) = some (if pgB h (behB h) p = true then .out (h.2.1, (h.2.1.length : Int), (p : Int), (h, ()), ()) else .ret (false, ())) := by
  intro p hp
  obtain ⟨w, b, hw, hb, ec, b16, hB⟩ := blk_of f hp
  obtain ⟨f0, f1⟩ := pg_free q hp
  unfold sound_whole_behind_l0 pgB
  rw [hb, ec]
  refine scan_all (fun i => ((p : Int), h.2.1, (h.2.1.length : Int), (p : Int), (b : Int), (i : Int), (h, ()), h.2.1.getD p sz, ())) (fun i hi => ?_) ?_ (by omega) rfl
  ·have B := hB i hi
   have hwb := B.wb
   have hin := B.in_
   have hB2 := B.two
   simp only [sound_whole_behind_s0, sound_whole_behind_s0r, Bool.cond_decide, ibne, class_Words_eq, Option.bind_some, B.cw_, Int.toNat_natCast]
   simp only [show ((0 : Int), (0 : Int), (0 : Int), ()) = sz from rfl, B.cw_]
   rw [if_pos (by omega)]
   by_cases hs : (h.2.1.getD p sz).1 = 0
   ·rw [if_neg (fun hh => hh hs), wi64_id (n := (i : Int) + 1) (by omega) (by omega)]
    simp only [stP, hs, decide_true, Bool.true_or, if_true]
    rfl
   ·have hfi := hfil p hp hs i (by omega)
    have ea : ((32 * p + i * w : Nat) : Int) = (blA h p i : Int) := by rw [B.a_]
    have eb : blA h p i + w ≤ h.1.length := by rw [B.a_]; omega
    rw [if_pos hs, hasP_eq f0 f1, Option.bind_some, at_prog (by omega) (by omega), ea, objGet_eq f (by omega) (by omega), Option.bind_some, if_pos (show (0 : Int) ≤ (p : Int) by omega), if_pos (show (p : Int) < (h.2.1.length : Int) by omega)]
    rw [wi64_id (n := (i : Int) + 1) (by omega) (by omega)]
    have hc0 : 0 ≤ cnt h (blA h p i) ∧ cnt h (blA h p i) < w ∧ (freB h p i = true → cnt h (blA h p i) = 0 ∧ clrB h (blA h p i) w = true) := by
     unfold filB at hfi
     by_cases hfr : freB h p i = true
     ·rw [if_pos hfr, B.w_] at hfi
      have z0 := clr_word eb hfi (show 0 < w by omega)
      have := cnt_no (not_ok_zero (h := h) (a := (blA h p i : Int)) (by simpa using z0))
      exact ⟨by omega, by omega, fun _ => ⟨this, hfi⟩⟩
     ·rw [if_neg hfr] at hfi
      simp only [Bool.and_eq_true, decide_eq_true_eq] at hfi
      have := ok_cnt f hfi.1
      rw [hfi.2, B.cw_] at this
      exact ⟨this.1, this.2, fun h => absurd h hfr⟩
    obtain ⟨c, hc⟩ : ∃ c : Nat, cnt h (blA h p i) = c := ⟨_, (Int.toNat_of_nonneg hc0.1).symm⟩
    have hcc : (og h (blA h p i)).1.2.2.2.1 = (c : Int) := hc
    rw [hc] at hc0
    simp only [hcc]
    rw [wi64_id (n := (blA h p i : Int) + 1) (by omega) (by omega), wi64_id (n := (blA h p i : Int) + 1 + (c : Int)) (by omega) (by omega), wi64_id (n := (blA h p i : Int) + (w : Int)) (by omega) (by omega)]
    rw [if_neg (show ¬ ((blA h p i : Int) + (w : Int) < (blA h p i : Int) + 1 + (c : Int)) by omega)]
    have e := clear_eq (h := h) (a := blA h p i + 1 + c) (n := w - 1 - c) (by omega) (by omega)
    rw [show ((blA h p i + 1 + c : Nat) : Int) = (blA h p i : Int) + 1 + (c : Int) by omega, show ((blA h p i + 1 + c + (w - 1 - c) : Nat) : Int) = (blA h p i : Int) + (w : Int) by omega] at e
    rw [e, Option.bind_some]
    simp only [stP, hs, decide_false, Bool.false_or, behB, B.w_, hc, Int.toNat_natCast]
    by_cases hfr : freB h p i = true
    ·obtain ⟨z1, z2⟩ := hc0.2.2 hfr
     have : clrB h (blA h p i + 1 + c) (w - 1 - c) = true := clr_of (by omega) fun j hj => by
      have := clr_word eb z2 (show 1 + c + j < w by omega)
      rw [← this]
      congr 1
      omega
     rw [this, hfr]
     rfl
    ·simp only [Bool.not_eq_true] at hfr
     rw [hfr]
     cases clrB h (blA h p i + 1 + c) (w - 1 - c) <;> rfl
  ·simp only [sound_whole_behind_s0, sound_whole_behind_s0r, Bool.cond_decide]
   rw [if_neg (by omega)]
 have k2 : sound_whole_behind_l1 (h.2.1, (h.2.1.length : Int), 0, (h, ()), ()) = some (if pgsB h (behB h) = true then .out () else .ret (false, ())) := by
  unfold sound_whole_behind_l1
  refine scan_all (fun p => (h.2.1, (h.2.1.length : Int), (p : Int), (h, ()), ())) (fun p hp => ?_) ?_ (by omega) rfl
  ·simp only [sound_whole_behind_s1, sound_whole_behind_s1r, Bool.cond_decide, Int.toNat_natCast, class_Blocks_eq, Option.bind_some]
   simp only [show ((0 : Int), (0 : Int), (0 : Int), ()) = sz from rfl]
   rw [if_pos (by omega), if_pos (by omega), if_pos (by omega), k1 p hp, Option.bind_some]
   cases pgB h (behB h) p
   ·rfl
   ·simp only [if_true]
    rw [wi64_id (n := (p : Int) + 1) (by omega) (by omega)]
    rfl
  ·simp only [sound_whole_behind_s1, sound_whole_behind_s1r, Bool.cond_decide]
   rw [if_neg (by omega)]
 simp only [sound_whole_behind, sound_whole_behind_r, k2, Option.bind_some, behindB]
 cases pgsB h (behB h) <;> rfl
theorem rf_rng (h : Heap) (a : Int) {n : Nat} : ∀ x ∈ rfN h a n, -9223372036854775808 ≤ x ∧ x < 9223372036854775808 := by
 intro x hx
 unfold rfN at hx
 obtain ⟨v, hv, rfl⟩ := List.mem_map.1 hx
 obtain ⟨j, _, rfl⟩ := List.mem_map.1 (List.mem_filter.1 hv).1
 exact rg_rng _
theorem refs_rng (h : Heap) (a : Int) : ∀ x ∈ refsO h a, -9223372036854775808 ≤ x ∧ x < 9223372036854775808 := rf_rng h a
theorem refs_len {h : Heap} (f : FormP h) (a : Int) : (refsO h a).length ≤ 15 := by
 cases ho : okA h a with
 | false => rw [refs_no ho]; simp
 | true =>
  have h1 := rfN_len h a (cnt h a).toNat
  have h2 := (og_rng f ho).2.2.2.2
  unfold refsO
  unfold cnt at h1 ⊢
  omega
theorem referred_eq {h : Heap} (q : HP h) : sound_whole_referred ((h, ()), ()) = some (referB h, ()) := by
 have f := q.f
 have hn := f.n16
 have hl := f.len
 have k0 : ∀ (a : Int) (s : Span), ScanR ((refsO h a).any fun x => !okA h x) (refsO h a).length (sound_whole_referred_l0 (((refsO h a).length : Int), 0, (h, ()), s, refsO h a, ())) ((h, ()), s, ()) (fun i => ((i : Int), (h, ()), s, ())) := by
  intro a s
  have hrl := refs_len f a
  unfold sound_whole_referred_l0
  refine scan_any (fun i => (((refsO h a).length : Int), (i : Int), (h, ()), s, refsO h a, ())) (fun i hi => ?_) ?_ (by omega) rfl
  ·have hr := refs_rng h a _ (List.getElem_mem hi)
   simp only [sound_whole_referred_s0, sound_whole_referred_s0r, Bool.cond_decide, Int.toNat_natCast, get_d _ _ _ hi, objGet_eq f hr.1 hr.2, Option.bind_some]
   rw [if_pos (by omega), if_pos (by omega), if_pos (by omega), wi64_id (n := (i : Int) + 1) (by omega) (by omega)]
   unfold okA
   cases (og h (refsO h a)[i]).2.1 <;> rfl
  ·simp only [sound_whole_referred_s0, sound_whole_referred_s0r, Bool.cond_decide]
   rw [if_neg (by omega)]
 simp only [any_not] at k0
 have k1 : ∀ p : Nat, p < h.2.1.length → sound_whole_referred_l1 ((p : Int), h.2.1, (h.2.1.length : Int), (p : Int), cb (h.2.1.getD p sz).2.1, 0, (h, ()), h.2.1.getD p sz, ()) = some (if pgB h (refB h) p = true then .out (h.2.1, (h.2.1.length : Int), (p : Int), (h, ()), ()) else .ret (false, ())) := by
  intro p hp
  obtain ⟨w, b, hw, hb, ec, b16, hB⟩ := blk_of f hp
  obtain ⟨f0, f1⟩ := pg_free q hp
  unfold sound_whole_referred_l1 pgB
  rw [hb, ec]
  refine scan_all (fun i => ((p : Int), h.2.1, (h.2.1.length : Int), (p : Int), (b : Int), (i : Int), (h, ()), h.2.1.getD p sz, ())) (fun i hi => ?_) ?_ (by omega) rfl
  ·have B := hB i hi
   have hwb := B.wb
   have hin := B.in_
   have hB2 := B.two
   simp only [sound_whole_referred_s1, sound_whole_referred_s1r, Bool.cond_decide, ibne, ibeq, class_Words_eq, Option.bind_some, B.cw_, Int.toNat_natCast]
   simp only [show ((0 : Int), (0 : Int), (0 : Int), ()) = sz from rfl]
   rw [if_pos (by omega)]
   by_cases hs : (h.2.1.getD p sz).1 = 0
   ·rw [if_neg (fun hh => hh hs), wi64_id (n := (i : Int) + 1) (by omega) (by omega)]
    simp only [stP, hs, decide_true, Bool.true_or, if_true]
    rfl
   ·have ea : ((32 * p + i * w : Nat) : Int) = (blA h p i : Int) := by rw [B.a_]
    have eb : blA h p i + w ≤ h.1.length := by rw [B.a_]; omega
    rw [if_pos hs, hasP_eq f0 f1, Option.bind_some, at_prog (by omega) (by omega), ea, if_pos (show (0 : Int) ≤ (p : Int) by omega), if_pos (show (p : Int) < (h.2.1.length : Int) by omega)]
    rw [wi64_id (n := (i : Int) + 1) (by omega) (by omega), objRefs_all f (by omega) (by omega), black_eq f (by omega) (by omega)]
    have hs1 : decide (stP h p = 0) = false := decide_eq_false hs
    simp only [Option.bind_some, hs1, Bool.false_or, refB]
    have k := k0 (blA h p i) (h.2.1.getD p sz)
    by_cases h1 : (h.2.1.getD p sz).1 = 1
    ·rw [if_pos h1, decide_eq_true (p := stP h p = 1) h1, Bool.true_or, Bool.not_true, Bool.false_or]
     rcases k with ⟨e1, e⟩ | ⟨e1, j, hj, e⟩
     ·simp only [Bool.not_eq_false'] at e1
      simp only [e, Option.bind_some, e1, if_true]
      rfl
     ·simp only [Bool.not_eq_true'] at e1
      simp only [e, Option.bind_some, e1, decide_eq_true (show (j : Int) ≥ 0 by omega), Bool.not_true, Bool.not_false, cond_true]
      rfl
    ·rw [if_neg h1, decide_eq_false (p := stP h p = 1) h1, Bool.false_or]
     cases bk h (blA h p i)
     ·simp only [Bool.not_false, cond_true, Bool.true_or, if_true]
      rfl
     ·simp only [Bool.not_true, cond_false, Bool.false_or]
      rcases k with ⟨e1, e⟩ | ⟨e1, j, hj, e⟩
      ·simp only [Bool.not_eq_false'] at e1
       simp only [e, Option.bind_some, e1, if_true]
       rfl
      ·simp only [Bool.not_eq_true'] at e1
       simp only [e, Option.bind_some, e1, decide_eq_true (show (j : Int) ≥ 0 by omega), Bool.not_true, Bool.not_false, cond_true]
       rfl
  ·simp only [sound_whole_referred_s1, sound_whole_referred_s1r, Bool.cond_decide]
   rw [if_neg (by omega)]
 have k2 : sound_whole_referred_l2 (h.2.1, (h.2.1.length : Int), 0, (h, ()), ()) = some (if pgsB h (refB h) = true then .out () else .ret (false, ())) := by
  unfold sound_whole_referred_l2
  refine scan_all (fun p => (h.2.1, (h.2.1.length : Int), (p : Int), (h, ()), ())) (fun p hp => ?_) ?_ (by omega) rfl
  ·simp only [sound_whole_referred_s2, sound_whole_referred_s2r, Bool.cond_decide, Int.toNat_natCast, class_Blocks_eq, Option.bind_some]
   simp only [show ((0 : Int), (0 : Int), (0 : Int), ()) = sz from rfl]
   rw [if_pos (by omega), if_pos (by omega), if_pos (by omega), k1 p hp, Option.bind_some]
   cases pgB h (refB h) p
   ·rfl
   ·simp only [if_true]
    rw [wi64_id (n := (p : Int) + 1) (by omega) (by omega)]
    rfl
  ·simp only [sound_whole_referred_s2, sound_whole_referred_s2r, Bool.cond_decide]
   rw [if_neg (by omega)]
 simp only [sound_whole_referred, sound_whole_referred_r, k2, Option.bind_some, referB]
 cases pgsB h (refB h) <;> rfl
def chkH (h : Heap) : Int := if formB h = true then if filledB h = true then if behindB h = true then if referB h = true then 0 else 4 else 3 else 2 else 1
theorem hp_ofG {h : Heap} (g : Good cHeap h) (hb : formB h = true) : HP h := ⟨form_of g hb, fun s hs => (good_span g hs).1⟩
theorem soundCheck_eq {h : Heap} (g : Good cHeap h) (hs : h.2.1.length ≤ 20) : sound_Check (h, ()) = some (chkH h, ()) := by
 simp only [sound_Check, sound_Check_r, sound_whole_formed, sound_whole_formed_r, heapForm_eq g hs, Option.bind_some, chkH]
 cases hb : formB h
 ·rfl
 have q := hp_ofG g hb
 simp only [Bool.not_true, cond_false, filled_eq q, Option.bind_some, if_true]
 cases hf : filledB h
 ·rfl
 simp only [Bool.not_true, cond_false, behind_eq q hf, Option.bind_some, if_true]
 cases behindB h
 ·rfl
 simp only [Bool.not_true, cond_false, referred_eq q, Option.bind_some, if_true]
 cases referB h <;> rfl
end Go.Proofs.YtkjpakaidjpjgaaGreatDoor.Den
