
/- Pure laws: what is reached. -/
import Derived.Test.YtdiogegolnoeoaaDoorDenPl
import Derived.Test.YtdiogegolnoeoaaDoorDenPq
import Derived.Test.YtdiogegolnoeoaaDoorDenPe
import Derived.Test.YtdiogegolnoeoaaDoorDenFz
namespace Go.Proofs.YtdiogegolnoeoaaDoor.Den
open Go
set_option linter.unusedVariables false
set_option linter.unusedSectionVars false
set_option linter.unusedSimpArgs false
set_option maxRecDepth 100000

def refsO (h : Heap) (a : Int) : List Int := rfN h a (cnt h a).toNat
/-- What is reached from values. -/
inductive Rch (h : Heap) (vs : List Val) : Int → Prop
  | base {a : Int} : okA h a = true → named vs a = true → Rch h vs a
  | step {a b : Int} : Rch h vs a → b ∈ refsO h a → okA h b = true → Rch h vs b
theorem Rch.ok {h : Heap} {vs : List Val} {a : Int} (r : Rch h vs a) : okA h a = true := by
  cases r with
  | base h _ => exact h
  | step _ _ h => exact h
noncomputable def rchB (h : Heap) (vs : List Val) (a : Int) : Bool := @decide (Rch h vs a) (Classical.propDecidable _)
theorem rchB_iff {h : Heap} {vs : List Val} {a : Int} : rchB h vs a = true ↔ Rch h vs a := by
  unfold rchB
  exact @decide_eq_true_iff _ (Classical.propDecidable _)
theorem named_take (vs : List Val) (k : Nat) (hk : k < vs.length) (a : Int) : named (vs.take (k + 1)) a = (named (vs.take k) a || one vs[k] a) := by
  have : vs.take (k + 1) = vs.take k ++ [vs[k]] := (List.take_append_getElem hk).symm
  unfold named
  rw [this, List.any_append]; simp

def cntT : List Bool → Nat
  | [] => 0
  | b :: l => (bif b then 1 else 0) + cntT l
theorem cntT_le : ∀ l, cntT l ≤ l.length
  | [] => Nat.le_refl _
  | b :: l => by
    have := cntT_le l
    simp only [cntT, List.length_cons]
    cases b <;> simp only [cond_true, cond_false] <;> omega
theorem cntT_mono : ∀ {a b : List Bool}, a.length = b.length → (∀ k, k < a.length → a.getD k false = true → b.getD k false = true) → cntT a ≤ cntT b ∧ (cntT a = cntT b → a = b)
  | [], [], _, _ => ⟨Nat.le_refl _, fun _ => rfl⟩
  | [], y :: b, h, _ => by simp at h
  | x :: a, [], h, _ => by simp at h
  | x :: a, y :: b, hl, h => by
    have ih := cntT_mono (a := a) (b := b) (by simpa using hl) (fun k hk ht => by
      have := h (k + 1) (by simp; omega) (by simpa using ht)
      simpa using this)
    have h0 := h 0 (by simp)
    simp only [List.getD_cons_zero] at h0
    simp only [cntT]
    cases x <;> cases y <;> simp only [cond_true, cond_false] at *
    · exact ⟨by omega, fun e => by rw [ih.2 (by omega)]⟩
    · exact ⟨by omega, fun e => by omega⟩
    · exact absurd (h0 trivial) (by simp)
    · exact ⟨by omega, fun e => by rw [ih.2 (by omega)]⟩
theorem cntT_full : ∀ {l : List Bool}, cntT l = l.length → ∀ k, k < l.length → l.getD k false = true
  | [], _, k, hk => by simp at hk
  | b :: l, h, k, hk => by
    have := cntT_le l
    simp only [cntT, List.length_cons] at h
    cases b with
    | false => simp only [cond_false] at h; omega
    | true =>
      simp only [cond_true] at h
      cases k with
      | zero => rfl
      | succ k =>
        rw [List.getD_cons_succ]
        exact cntT_full (by omega) k (by simpa using hk)
theorem set_same_d {l : List Bool} {i : Nat} {b : Bool} (h : l.getD i false = b) : l.set i b = l := by
  by_cases hi : i < l.length
  · rw [get_d _ _ _ hi] at h
    subst h
    exact List.set_getElem_self hi
  · exact List.set_eq_of_length_le (by omega)

section
variable {h : Heap} {vs : List Val} {L : List Int} (hL : L.length ≤ 512) (hv : vs.length ≤ 1000)
include hL hv
theorem from_l0 {bs : List Bool} (hb : bs.length = L.length) {i : Nat} (hi : i < L.length) (h0 : bs.getD i false = false) :
    flotsamref15_From_l0 (vs, i, 0, h, L, bs, ()) = some (.out (vs, (i : Int), h, L, bs.set i (named vs (L.getD i 0)), ())) := by
  unfold flotsamref15_From_l0
  refine iterL_run vs.length (fun k => (vs, (i : Int), (k : Int), h, L, bs.set i (named (vs.take k) (L.getD i 0)), ())) (fun k hk => ?_) ?_ (by omega) ?_
  · have hs : (bs.set i (named (vs.take k) (L.getD i 0))).getD i false = named (vs.take k) (L.getD i 0) := by
      rw [List.getD, List.getElem?_set]; simp [show i < bs.length by omega]
    simp only [flotsamref15_From_s0, flotsamref15_From_s0r, Bool.cond_decide, ibeq, Int.toNat_natCast, List.length_set, List.set_set, hs]
    rw [if_pos (by omega), if_pos (by omega), if_pos (by omega), wi64_id (by omega) (by omega), named_take vs k hk]
    simp only [show ((0 : Int), (0 : Int), ()) = zv from rfl, get_d vs k zv hk]
    cases hn : named (vs.take k) (L.getD i 0) with
    | true =>
      simp only [cond_true, Bool.true_or]
      repeat rw [if_pos (by omega)]
      rfl
    | false =>
      simp only [cond_false, Bool.false_or]
      have e1 : one vs[k] (L.getD i 0) = (decide (vs[k].1 = 2) && decide (vs[k].2.1 = L.getD i 0)) := rfl
      rw [e1]
      by_cases c : vs[k].1 = 2
      · repeat rw [if_pos (by omega)]
        rw [decide_eq_true c, Bool.true_and]; rfl
      · repeat (first | rw [if_pos (by omega)] | rw [if_neg (by omega)])
        rw [decide_eq_false c, Bool.false_and]; rfl
  · simp only [flotsamref15_From_s0, flotsamref15_From_s0r, Bool.cond_decide]
    rw [if_neg (by omega), List.take_of_length_le (Nat.le_refl _)]
  · have : bs.set i (named (vs.take 0) (L.getD i 0)) = bs := set_same_d (by rw [h0]; rfl)
    simp only [this]; rfl
theorem from_l1 : flotsamref15_From_l1 (vs, 0, h, L, List.replicate L.length false, ()) = some (.out (h, L, L.map (named vs), ())) := by
  have key : ∃ l, flotsamref15_From_l1 (vs, 0, h, L, List.replicate L.length false, ()) = some l ∧ l = .out (h, L, L.map (named vs), ()) := by
    unfold flotsamref15_From_l1
    refine iterL_rule (fun m x => ∃ (i : Nat) (bs : List Bool), i ≤ L.length ∧ m = L.length - i ∧ x = (vs, (i : Int), h, L, bs, ()) ∧ bs.length = L.length ∧ (∀ j, j < i → bs.getD j false = named vs (L.getD j 0)) ∧ ∀ j, i ≤ j → bs.getD j false = false) ?_ _ L.length _ (by omega) ⟨0, _, by omega, rfl, rfl, by rw [List.length_replicate], fun j hj => by omega, fun j _ => by
      simp only [List.getD, List.getElem?_replicate]; split <;> rfl⟩
    rintro m x ⟨i, bs, i1, rfl, rfl, hb, h1, h2⟩
    simp only [flotsamref15_From_s1, flotsamref15_From_s1r, Bool.cond_decide]
    by_cases hi : i < L.length
    · left
      rw [if_pos (by omega), from_l0 hL hv hb hi (h2 i (Nat.le_refl _)), Option.bind_some]
      dsimp only
      rw [wi64_id (by omega) (by omega)]
      refine ⟨L.length - (i + 1), _, by omega, rfl, i + 1, _, by omega, rfl, rfl, by rw [List.length_set]; exact hb, fun j hj => ?_, fun j hj => ?_⟩
      · by_cases e : i = j
        · subst e
          rw [List.getD, List.getElem?_set]; simp [show i < bs.length by omega]
        · have : (bs.set i (named vs (L.getD i 0))).getD j false = bs.getD j false := by
            simp only [List.getD, List.getElem?_set, if_neg e]
          rw [this]; exact h1 j (by omega)
      · have : (bs.set i (named vs (L.getD i 0))).getD j false = bs.getD j false := by
          simp only [List.getD, List.getElem?_set, if_neg (show ¬ i = j by omega)]
        rw [this]; exact h2 j (by omega)
    · right
      refine ⟨_, by rw [if_neg (by omega)], ?_⟩
      have : bs = L.map (named vs) := by
        refine List.ext_getElem (by rw [List.length_map]; exact hb) fun j j1 j2 => ?_
        have := h1 j (by omega)
        rw [get_d _ _ _ j1, get_d _ _ _ (by omega)] at this
        rw [this, List.getElem_map]
      rw [this]
  obtain ⟨l, e, rfl⟩ := key
  exact e
omit hv in
theorem from_l2 (r i : Int) {bs : List Bool} (hb : bs.length = L.length) {rf : List Int} (hr : rf.length ≤ 100) :
    ∃ l, flotsamref15_From_l2 (r, i, 0, h, L, bs, rf, ()) = some l ∧ ∃ bs', l = .out (r, i, h, L, bs', ()) ∧ bs'.length = L.length ∧ ∀ k, k < L.length → bs'.getD k false = (bs.getD k false || decide (L.getD k 0 ∈ rf)) := by
  unfold flotsamref15_From_l2
  refine iterL_rule (fun m x => ∃ (k : Nat) (bs' : List Bool), k ≤ L.length ∧ m = L.length - k ∧ x = (r, i, (k : Int), h, L, bs', rf, ()) ∧ bs'.length = L.length ∧ (∀ j, j < k → bs'.getD j false = (bs.getD j false || decide (L.getD j 0 ∈ rf))) ∧ ∀ j, k ≤ j → bs'.getD j false = bs.getD j false) ?_ _ L.length _ (by omega) ⟨0, bs, by omega, rfl, rfl, hb, fun j hj => by omega, fun j _ => rfl⟩
  rintro m x ⟨k, bs', k1, rfl, rfl, hb', h1, h2⟩
  simp only [flotsamref15_From_s2, flotsamref15_From_s2r, Bool.cond_decide, Int.toNat_natCast, in8_eq rf _ (show rf.length < 9223372036854775807 by omega), Option.bind_some]
  by_cases hk : k < L.length
  · left
    have hg := h2 k (Nat.le_refl _)
    refine ⟨L.length - (k + 1), (r, i, ((k + 1 : Nat) : Int), h, L, bs'.set k (bs.getD k false || decide (L.getD k 0 ∈ rf)), rf, ()), by omega, ?_, k + 1, _, by omega, rfl, rfl, by rw [List.length_set]; exact hb', fun j hj => ?_, fun j hj => ?_⟩
    · rw [if_pos (by omega), if_pos (by omega), if_pos (by omega), wi64_id (by omega) (by omega), hg]
      cases hc : bs.getD k false with
      | true =>
        rw [cond_true, if_pos (by omega), if_pos (by omega)]; rfl
      | false =>
        rw [cond_false, if_pos (by omega), if_pos (by omega), if_pos (by omega), if_pos (by omega), Bool.false_or]; rfl
    · by_cases e : k = j
      · subst e
        rw [List.getD, List.getElem?_set]; simp [show k < bs'.length by omega]
      · have : (bs'.set k (bs.getD k false || decide (L.getD k 0 ∈ rf))).getD j false = bs'.getD j false := by
          simp only [List.getD, List.getElem?_set, if_neg e]
        rw [this]; exact h1 j (by omega)
    · have : (bs'.set k (bs.getD k false || decide (L.getD k 0 ∈ rf))).getD j false = bs'.getD j false := by
        simp only [List.getD, List.getElem?_set, if_neg (show ¬ k = j by omega)]
      rw [this]; exact h2 j (by omega)
  · right
    exact ⟨_, by rw [if_neg (by omega)], bs', rfl, hb', fun j hj => h1 j (by omega)⟩
end

/-! Rounds. -/
def ClosedB (h : Heap) (L : List Int) (bs : List Bool) : Prop := ∀ j k, j < L.length → k < L.length → bs.getD j false = true → L.getD k 0 ∈ refsO h (L.getD j 0) → bs.getD k false = true
def SoundB (h : Heap) (vs : List Val) (L : List Int) (bs : List Bool) : Prop := ∀ k, k < L.length → bs.getD k false = true → Rch h vs (L.getD k 0)
def MonoB (a b : List Bool) : Prop := a.length = b.length ∧ ∀ k, k < a.length → a.getD k false = true → b.getD k false = true
theorem refsO_len {h : Heap} (f : FormP h) {a : Int} (ho : okA h a = true) : (refsO h a).length ≤ 100 := by
  have := rfN_len h a (cnt h a).toNat
  have := (og_rng f ho).2.2.2.2
  have : cnt h a ≤ 15 := this
  unfold refsO; omega
theorem from_l3 {h : Heap} (f : FormP h) {vs : List Val} (r : Int) {bs : List Bool} (hb : bs.length = (lst h).length) (hs : SoundB h vs (lst h) bs) :
    ∃ l, flotsamref15_From_l3 (r, 0, h, lst h, bs, ()) = some l ∧ ∃ bs', l = .out (r, h, lst h, bs', ()) ∧ MonoB bs bs' ∧ SoundB h vs (lst h) bs' ∧ (bs' = bs → ClosedB h (lst h) bs) ∧ (ClosedB h (lst h) bs → bs' = bs) := by
  have hL := lst_len f
  have hok : ∀ k, k < (lst h).length → okA h ((lst h).getD k 0) = true := fun k hk => by
    rw [get_d _ _ _ hk]; exact (mem_lst f).1 (List.getElem_mem hk)
  unfold flotsamref15_From_l3
  refine iterL_rule (fun m x => ∃ (i : Nat) (bs' : List Bool), i ≤ (lst h).length ∧ m = (lst h).length - i ∧ x = (r, (i : Int), h, lst h, bs', ()) ∧ MonoB bs bs' ∧ SoundB h vs (lst h) bs' ∧
    (bs' = bs → ∀ j k, j < i → k < (lst h).length → bs.getD j false = true → (lst h).getD k 0 ∈ refsO h ((lst h).getD j 0) → bs.getD k false = true) ∧ (ClosedB h (lst h) bs → bs' = bs)) ?_ _ (lst h).length _ (by omega) ⟨0, bs, by omega, rfl, rfl, ⟨rfl, fun _ _ h => h⟩, hs, fun _ j k hj => by omega, fun _ => rfl⟩
  rintro m x ⟨i, bs', i1, rfl, rfl, hm, hs', hc, hc'⟩
  have hlb := hm.1
  simp only [flotsamref15_From_s3, flotsamref15_From_s3r, Bool.cond_decide, Int.toNat_natCast, condn]
  by_cases hi : i < (lst h).length
  · left
    rw [if_pos (by omega), if_pos (by omega), if_pos (by omega), wi64_id (n := (i : Int) + 1) (by omega) (by omega)]
    cases hg : bs'.getD i false with
    | false =>
      refine ⟨(lst h).length - (i + 1), _, by omega, rfl, i + 1, bs', by omega, rfl, rfl, hm, hs', fun e j k hj hk ht hin => ?_, hc'⟩
      by_cases ej : j = i
      · subst ej; subst e; rw [hg] at ht; cases ht
      · exact hc e j k (by omega) hk ht hin
    | true =>
      have ho := hok i hi
      obtain ⟨l2, e2, bs2, rfl, hb2, hp⟩ := from_l2 hL r i (h := h) (bs := bs') (by omega) (refsO_len f ho)
      rw [cond_true, if_pos (by omega), if_pos (by omega), refs8_eq f ho, Option.bind_some]
      dsimp only
      rw [show rfN h ((lst h).getD i 0) (cnt h ((lst h).getD i 0)).toNat = refsO h ((lst h).getD i 0) from rfl, e2, Option.bind_some]
      dsimp only
      rw [wi64_id (n := (i : Int) + 1) (by omega) (by omega)]
      have hm2 : MonoB bs' bs2 := ⟨by omega, fun k hk ht => by rw [hp k (by omega), ht]; rfl⟩
      refine ⟨(lst h).length - (i + 1), _, by omega, rfl, i + 1, bs2, by omega, rfl, rfl, ⟨by omega, fun k hk ht => hm2.2 k (by omega) (hm.2 k hk ht)⟩, fun k hk ht => ?_, fun e => ?_, fun c => ?_⟩
      · rw [hp k hk, Bool.or_eq_true, decide_eq_true_iff] at ht
        rcases ht with ht | ht
        · exact hs' k hk ht
        · exact .step (hs' i hi hg) ht (hok k hk)
      · subst e
        have e' : bs' = bs2 := by
          have a1 := cntT_mono hm.1 hm.2
          have a2 := cntT_mono hm2.1 hm2.2
          exact a2.2 (by omega)
        intro j k hj hk ht hin
        by_cases ej : j = i
        · subst ej
          rw [hp k hk, decide_eq_true hin, Bool.or_true]
        · exact hc e' j k (by omega) hk ht hin
      · have e := hc' c
        subst e
        refine List.ext_getElem (by omega) fun k k1 k2 => ?_
        have h1 := hp k (by omega)
        rw [get_d _ _ _ k1, get_d _ _ _ k2] at h1
        rw [h1]
        cases hx : bs'[k] with
        | true => rfl
        | false =>
          rw [Bool.false_or, decide_eq_false_iff_not]
          intro hin
          have := c i k hi (by omega) hg hin
          rw [get_d _ _ _ k2, hx] at this; cases this
  · right
    obtain rfl : i = (lst h).length := by omega
    exact ⟨_, by rw [if_neg (by omega)], bs', rfl, hm, hs', fun e j k hj hk ht hin => hc e j k hj hk ht hin, hc'⟩
theorem from_l4 {h : Heap} (f : FormP h) {vs : List Val} {bs : List Bool} (hb : bs.length = (lst h).length) (hs : SoundB h vs (lst h) bs) :
    ∃ l, flotsamref15_From_l4 (0, h, lst h, bs, ()) = some l ∧ ∃ bs', l = .out (lst h, bs', ()) ∧ MonoB bs bs' ∧ SoundB h vs (lst h) bs' ∧ ClosedB h (lst h) bs' := by
  have hL := lst_len f
  unfold flotsamref15_From_l4
  refine iterL_rule (fun m x => ∃ (r : Nat) (bs' : List Bool), r ≤ (lst h).length ∧ m = (lst h).length - r ∧ x = ((r : Int), h, lst h, bs', ()) ∧ MonoB bs bs' ∧ SoundB h vs (lst h) bs' ∧ (ClosedB h (lst h) bs' ∨ r ≤ cntT bs')) ?_ _ (lst h).length _ (by omega) ⟨0, bs, by omega, rfl, rfl, ⟨rfl, fun _ _ h => h⟩, hs, .inr (Nat.zero_le _)⟩
  rintro m x ⟨r, bs', r1, rfl, rfl, hm, hs', hc⟩
  have hlb := hm.1
  simp only [flotsamref15_From_s4, flotsamref15_From_s4r, Bool.cond_decide]
  by_cases hr : r < (lst h).length
  · left
    obtain ⟨l3, e3, bs3, rfl, hm3, hs3, c1, c2⟩ := from_l3 f (r : Int) (vs := vs) (bs := bs') (by omega) hs'
    have hl3 := hm3.1
    rw [if_pos (by omega), e3, Option.bind_some]
    dsimp only
    rw [wi64_id (by omega) (by omega)]
    refine ⟨(lst h).length - (r + 1), _, by omega, rfl, r + 1, bs3, by omega, rfl, rfl, ⟨by omega, fun k hk ht => hm3.2 k (by omega) (hm.2 k hk ht)⟩, hs3, ?_⟩
    by_cases e : bs3 = bs'
    · left; rw [e]; exact c1 e
    · right
      have a := cntT_mono hm3.1 hm3.2
      rcases hc with hc | hc
      · exact absurd (c2 hc) e
      · have : cntT bs' ≠ cntT bs3 := fun h => e (a.2 h).symm
        omega
  · right
    obtain rfl : r = (lst h).length := by omega
    refine ⟨_, by rw [if_neg (by omega)], bs', rfl, hm, hs', ?_⟩
    rcases hc with hc | hc
    · exact hc
    · have := cntT_le bs'
      intro j k _ hk _ _
      exact cntT_full (by omega) k (by omega)
theorem from_l5 {L : List Int} (hL : L.length ≤ 512) {bs : List Bool} (p : Int → Bool) (hb : bs.length = L.length) (hp : ∀ k, k < L.length → bs.getD k false = p (L.getD k 0)) :
    flotsamref15_From_l5 (0, L, bs, [], ()) = some (.out (L.filter p, ())) := by
  unfold flotsamref15_From_l5
  refine iterL_run L.length (fun i => ((i : Int), L, bs, (L.take i).filter p, ())) (fun i hi => ?_) ?_ (by omega) rfl
  · have ht : L.take (i + 1) = L.take i ++ [L[i]] := (List.take_append_getElem hi).symm
    have hf : ((L.take i).filter p).length ≤ 512 := by
      have := List.length_filter_le p (L.take i)
      rw [List.length_take] at this; omega
    have hg := hp i hi
    simp only [flotsamref15_From_s5, flotsamref15_From_s5r, Bool.cond_decide, Int.toNat_natCast]
    rw [if_pos (by omega), if_pos (by omega), if_pos (by omega), hg, wi64_id (by omega) (by omega), ht, List.filter_append, get_d _ _ _ hi]
    cases hc : p L[i] with
    | true =>
      rw [cond_true, if_pos (by omega), if_pos (by omega), if_pos (by omega)]
      simp [List.filter_cons, hc]
    | false =>
      rw [cond_false]
      simp [List.filter_cons, hc]
  · simp only [flotsamref15_From_s5, flotsamref15_From_s5r, Bool.cond_decide]
    rw [if_neg (by omega), List.take_of_length_le (Nat.le_refl _)]
/-- The reference's answer: the objects that are reached, in order. -/
theorem from15_eq {h : Heap} (f : FormP h) {vs : List Val} (hv : vs.length ≤ 1000) : flotsamref15_From (h, vs, ()) = some ((lst h).filter (rchB h vs), ()) := by
  have hL := lst_len f
  have hok : ∀ k, k < (lst h).length → okA h ((lst h).getD k 0) = true := fun k hk => by
    rw [get_d _ _ _ hk]; exact (mem_lst f).1 (List.getElem_mem hk)
  have hg0 : ∀ k, k < (lst h).length → ((lst h).map (named vs)).getD k false = named vs ((lst h).getD k 0) := fun k hk => by
    rw [get_d _ _ _ (by rw [List.length_map]; exact hk), List.getElem_map, get_d _ _ _ hk]
  obtain ⟨l4, e4, bs, rfl, hm, hs, hc⟩ := from_l4 f (vs := vs) (bs := (lst h).map (named vs)) (by rw [List.length_map]) (fun k hk ht => by
    rw [hg0 k hk] at ht
    exact .base (hok k hk) ht)
  have hlb := hm.1
  rw [List.length_map] at hlb
  have hp : ∀ k, k < (lst h).length → bs.getD k false = rchB h vs ((lst h).getD k 0) := fun k hk => by
    have hcomp : ∀ a, Rch h vs a → ∀ k, k < (lst h).length → (lst h).getD k 0 = a → bs.getD k false = true := by
      intro a ra
      induction ra with
      | base ho hn =>
        intro k hk e
        exact hm.2 k (by rw [List.length_map]; exact hk) (by rw [hg0 k hk, e]; exact hn)
      | step ra hin ho ih =>
        intro k hk e
        obtain ⟨j, hj, ej⟩ := List.mem_iff_getElem.1 ((mem_lst f).2 ra.ok)
        have ej' : (lst h).getD j 0 = _ := (get_d _ _ _ hj).trans ej
        exact hc j k hj hk (ih j hj ej') (by rw [e, ej']; exact hin)
    cases hx : rchB h vs ((lst h).getD k 0) with
    | true => exact hcomp _ (rchB_iff.1 hx) k hk rfl
    | false =>
      cases hy : bs.getD k false with
      | false => rfl
      | true =>
        have := rchB_iff.2 (hs k hk hy)
        rw [hx] at this; cases this
  simp only [flotsamref15_From, flotsamref15_From_r, list_eq f, Option.bind_some, Bool.cond_decide, beq_self_eq_true, cond_true, Int.toNat_natCast]
  rw [if_pos (by omega), if_pos (by omega), from_l1 hL hv, Option.bind_some]
  dsimp only
  rw [e4, Option.bind_some]
  dsimp only
  rw [from_l5 hL (rchB h vs) hlb.symm hp, Option.bind_some]
/-- The same objects, referring to the same, from values that name the same as far as can be reached. -/
theorem filter_rch {g h : Heap} {us vs : List Val} (hl : lst g = lst h) (hr : ∀ a, Rch g us a ↔ Rch h vs a) : (lst g).filter (rchB g us) = (lst h).filter (rchB h vs) := by
  rw [hl]
  apply List.filter_congr
  intro a _
  rw [Bool.eq_iff_iff, rchB_iff, rchB_iff]
  exact hr a
end Go.Proofs.YtdiogegolnoeoaaDoor.Den
