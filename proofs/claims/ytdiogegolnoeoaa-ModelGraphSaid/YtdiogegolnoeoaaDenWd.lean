/- Pure laws: what is reached in a model, by rounds. -/
import Derived.Test.YtdiogegolnoeoaaDenWc
namespace Go.Proofs.Ytdiogegolnoeoaa.Den
open Go
set_option linter.unusedVariables false
set_option linter.unusedSectionVars false
set_option linter.unusedSimpArgs false
set_option maxRecDepth 100000

def cntT : List Bool → Nat
  | [] => 0
  | b :: l => (bif b then 1 else 0) + cntT l
theorem cntT_le : ∀ l, cntT l ≤ l.length
  | [] => Nat.le_refl _
  | b :: l => by
    have := cntT_le l
    simp only [cntT, List.length_cons]
    cases b <;> simp only [cond_true, cond_false] <;> omega
theorem cntT_mono : ∀ {a b : List Bool}, a.length = b.length → (∀ k, k < a.length → a.getD k false = true → b.getD k false = true) → cntT a ≤ cntT b ∧ (cntT a = cntT b → a = b)
  | [], [], _, _ => ⟨Nat.le_refl _, fun _ => rfl⟩
  | [], y :: b, h, _ => by simp at h
  | x :: a, [], h, _ => by simp at h
  | x :: a, y :: b, hl, h => by
    have ih := cntT_mono (a := a) (b := b) (by simpa using hl) (fun k hk ht => by
      have := h (k + 1) (by simp; omega) (by simpa using ht)
      simpa using this)
    have h0 := h 0 (by simp)
    simp only [List.getD_cons_zero] at h0
    simp only [cntT]
    cases x <;> cases y <;> simp only [cond_true, cond_false] at *
    · exact ⟨by omega, fun e => by rw [ih.2 (by omega)]⟩
    · exact ⟨by omega, fun e => by omega⟩
    · exact absurd (h0 trivial) (by simp)
    · exact ⟨by omega, fun e => by rw [ih.2 (by omega)]⟩
theorem set_same_d {l : List Bool} {i : Nat} {b : Bool} (h : l.getD i false = b) : l.set i b = l := by
  by_cases hi : i < l.length
  · rw [get_d _ _ _ hi] at h
    subst h
    exact List.set_getElem_self hi
  · exact List.set_eq_of_length_le (by omega)
theorem set_at {l : List Bool} {i : Nat} {b : Bool} (h : i < l.length) : (l.set i b).getD i false = b := by
  rw [List.getD, List.getElem?_set]; simp [h]
theorem set_off {l : List Bool} {i k : Nat} {b : Bool} (h : i ≠ k) : (l.set i b).getD k false = l.getD k false := by
  simp only [List.getD, List.getElem?_set, if_neg h]
theorem nameM_take (vs : List Val) (k : Nat) (hk : k < vs.length) (a : Int) : nameM (vs.take (k + 1)) a = (nameM (vs.take k) a || (decide (vs[k].1 = 2) && decide (vs[k].2.1 = a))) := by
  have : vs.take (k + 1) = vs.take k ++ [vs[k]] := (List.take_append_getElem hk).symm
  rw [this, nameM_app, nameM_one]

/-- The name of the thing at a place, and its fields. -/
def idA (m : Model) (j : Nat) : Int := (m.2.1.getD j zt).1
def fdA (m : Model) (j : Nat) : List Val := (m.2.1.getD j zt).2.1

section
variable {m : Model} {vs : List Val} (hn : m.2.1.length ≤ 1000) (hv : vs.length ≤ 1000) (hf : ∀ i, i < m.2.1.length → (fdA m i).length ≤ 1000)
include hn hv hf
theorem reach_l0 (r : Int) {bs : List Bool} (hb : bs.length = m.2.1.length) {j : Nat} (hj : j < m.2.1.length) :
    flotsamref24_Reach_l0 (vs, r, (j : Int), 0, m, bs, ()) = some (.out (vs, r, (j : Int), m, bs.set j (bs.getD j false || nameM vs (idA m j)), ())) := by
  unfold flotsamref24_Reach_l0
  refine iterL_run vs.length (fun k => (vs, r, (j : Int), (k : Int), m, bs.set j (bs.getD j false || nameM (vs.take k) (idA m j)), ())) (fun k hk => ?_) ?_ (by omega) ?_
  · have hs : (bs.set j (bs.getD j false || nameM (vs.take k) (idA m j))).getD j false = (bs.getD j false || nameM (vs.take k) (idA m j)) := set_at (by omega)
    simp only [flotsamref24_Reach_s0, flotsamref24_Reach_s0r, Bool.cond_decide, ibeq, Int.toNat_natCast, List.length_set, List.set_set, hs]
    rw [if_pos (by omega), if_pos (by omega), if_pos (by omega), wi64_id (by omega) (by omega), nameM_take vs k hk, get_d vs k _ hk, ← Bool.or_assoc]
    cases hc : (bs.getD j false || nameM (vs.take k) (idA m j)) with
    | true =>
      simp only [cond_true, Bool.true_or]
      repeat rw [if_pos (by omega)]
      rfl
    | false =>
      simp only [cond_false, Bool.false_or]
      by_cases c : vs[k].1 = 2
      · repeat rw [if_pos (by omega)]
        rw [decide_eq_true c, Bool.true_and]; rfl
      · repeat (first | rw [if_pos (by omega)] | rw [if_neg (by omega)])
        rw [decide_eq_false c, Bool.false_and]; rfl
  · simp only [flotsamref24_Reach_s0, flotsamref24_Reach_s0r, Bool.cond_decide]
    rw [if_neg (by omega), List.take_of_length_le (Nat.le_refl _)]
  · have : bs.set j (bs.getD j false || nameM (vs.take 0) (idA m j)) = bs := set_same_d (by simp [nameM])
    simp only [this]; rfl
omit hv in
theorem reach_l1 (r : Int) {bs : List Bool} (hb : bs.length = m.2.1.length) {i j : Nat} (hi : i < m.2.1.length) (hj : j < m.2.1.length) :
    flotsamref24_Reach_l1 (vs, r, (j : Int), (i : Int), 0, m, bs, ()) = some (.out (vs, r, (j : Int), (i : Int), m, bif bs.getD i false then bs.set j (bs.getD j false || nameM (fdA m i) (idA m j)) else bs, ())) := by
  have hfi := hf i hi
  unfold flotsamref24_Reach_l1
  have et : ∀ k, ((m.2.1.getD k (0, [], ()) : Thing)) = m.2.1.getD k zt := fun _ => rfl
  have ef : (m.2.1.getD i zt).2.1 = fdA m i := rfl
  have ei : (m.2.1.getD j zt).1 = idA m j := rfl
  cases hbi : bs.getD i false with
  | false =>
    refine iterL_run 0 (fun k => (vs, r, (j : Int), (i : Int), 0, m, bs, ())) (fun k hk => by omega) ?_ (by omega) rfl
    simp only [flotsamref24_Reach_s1, flotsamref24_Reach_s1r, Bool.cond_decide, Int.toNat_natCast, hbi, cond_false, et, ef]
    rw [if_pos (by omega), if_pos (by omega)]
    by_cases h0 : (0 : Int) < ((fdA m i).length : Int)
    · rw [if_pos h0, if_pos (by omega), if_pos (by omega)]
    · rw [if_neg h0]
  | true =>
    simp only [cond_true]
    refine iterL_run (fdA m i).length (fun k => (vs, r, (j : Int), (i : Int), (k : Int), m, bs.set j (bs.getD j false || nameM ((fdA m i).take k) (idA m j)), ())) (fun k hk => ?_) ?_ (by omega) ?_
    · have hs : (bs.set j (bs.getD j false || nameM ((fdA m i).take k) (idA m j))).getD j false = (bs.getD j false || nameM ((fdA m i).take k) (idA m j)) := set_at (by omega)
      have hs2 : (bs.set j (bs.getD j false || nameM ((fdA m i).take k) (idA m j))).getD i false = true := by
        by_cases e : j = i
        · subst e; rw [hs, hbi]; rfl
        · rw [set_off e, hbi]
      simp only [flotsamref24_Reach_s1, flotsamref24_Reach_s1r, Bool.cond_decide, ibeq, Int.toNat_natCast, List.length_set, List.set_set, hs, hs2, cond_true, et, ef, ei]
      rw [wi64_id (by omega) (by omega), nameM_take _ k hk, get_d (fdA m i) k _ hk, ← Bool.or_assoc]
      cases hc : (bs.getD j false || nameM ((fdA m i).take k) (idA m j)) with
      | true =>
        simp only [cond_true, Bool.true_or]
        repeat rw [if_pos (by omega)]
        rfl
      | false =>
        simp only [cond_false, Bool.false_or]
        by_cases c : (fdA m i)[k].1 = 2
        · repeat rw [if_pos (by omega)]
          rw [decide_eq_true c, Bool.true_and]; rfl
        · repeat (first | rw [if_pos (by omega)] | rw [if_neg (by omega)])
          rw [decide_eq_false c, Bool.false_and]; rfl
    · simp only [flotsamref24_Reach_s1, flotsamref24_Reach_s1r, Bool.cond_decide, Int.toNat_natCast, et, ef]
      rw [if_pos (by omega), if_pos (by omega), if_neg (by omega), List.take_of_length_le (Nat.le_refl _)]
    · have : bs.set j (bs.getD j false || nameM ((fdA m i).take 0) (idA m j)) = bs := set_same_d (by simp [nameM])
      simp only [this]; rfl
omit hv in
theorem reach_l2 (r : Int) {bs : List Bool} (hb : bs.length = m.2.1.length) {j : Nat} (hj : j < m.2.1.length) :
    ∃ l, flotsamref24_Reach_l2 (vs, r, (j : Int), 0, m, bs, ()) = some l ∧ ∃ cs, l = .out (vs, r, (j : Int), m, cs, ()) ∧ cs.length = m.2.1.length ∧ (∀ k, j ≠ k → cs.getD k false = bs.getD k false) ∧
      (bs.getD j false = true → cs.getD j false = true) ∧ (∀ i, i < m.2.1.length → bs.getD i false = true → nameM (fdA m i) (idA m j) = true → cs.getD j false = true) ∧
      (cs.getD j false = true → bs.getD j false = true ∨ ∃ i, i < m.2.1.length ∧ bs.getD i false = true ∧ nameM (fdA m i) (idA m j) = true) := by
  unfold flotsamref24_Reach_l2
  refine iterL_rule (fun n x => ∃ (i : Nat) (cs : List Bool), i ≤ m.2.1.length ∧ n = m.2.1.length - i ∧ x = (vs, r, (j : Int), (i : Int), m, cs, ()) ∧ cs.length = m.2.1.length ∧ (∀ k, j ≠ k → cs.getD k false = bs.getD k false) ∧
      (bs.getD j false = true → cs.getD j false = true) ∧ (∀ i', i' < i → bs.getD i' false = true → nameM (fdA m i') (idA m j) = true → cs.getD j false = true) ∧
      (cs.getD j false = true → bs.getD j false = true ∨ ∃ i, i < m.2.1.length ∧ bs.getD i false = true ∧ nameM (fdA m i) (idA m j) = true)) ?_ _ m.2.1.length _ (by omega) ⟨0, bs, by omega, rfl, rfl, hb, fun _ _ => rfl, fun h => h, fun i' h => by omega, .inl⟩
  rintro n x ⟨i, cs, i1, rfl, rfl, hc, h1, h2, h3, h4⟩
  simp only [flotsamref24_Reach_s2, flotsamref24_Reach_s2r, Bool.cond_decide]
  by_cases hi : i < m.2.1.length
  · left
    rw [if_pos (by omega), reach_l1 hn hf r hc hi hj, Option.bind_some]
    dsimp only
    rw [wi64_id (by omega) (by omega)]
    have hbc : bs.getD i false = true → cs.getD i false = true := fun h => by
      by_cases e : j = i
      · subst e; exact h2 h
      · rw [h1 i e]; exact h
    cases hg : cs.getD i false with
    | false =>
      refine ⟨m.2.1.length - (i + 1), _, by omega, rfl, i + 1, cs, by omega, rfl, rfl, hc, h1, h2, fun i' hi' hb' hnm => ?_, h4⟩
      by_cases e : i' = i
      · subst e; rw [hbc hb'] at hg; cases hg
      · exact h3 i' (by omega) hb' hnm
    | true =>
      refine ⟨m.2.1.length - (i + 1), _, by omega, rfl, i + 1, cs.set j (cs.getD j false || nameM (fdA m i) (idA m j)), by omega, rfl, rfl, by rw [List.length_set]; exact hc, fun k hk => by rw [set_off hk]; exact h1 k hk, fun h => ?_, fun i' hi' hb' hnm => ?_, fun h => ?_⟩
      · rw [set_at (by omega), h2 h]; rfl
      · rw [set_at (by omega)]
        by_cases e : i' = i
        · subst e; rw [hnm, Bool.or_true]
        · rw [h3 i' (by omega) hb' hnm]; rfl
      · rw [set_at (by omega), Bool.or_eq_true] at h
        rcases h with h | h
        · exact h4 h
        · by_cases e : j = i
          · subst e; exact h4 hg
          · rw [h1 i e] at hg
            exact .inr ⟨i, hi, hg, h⟩
  · right
    obtain rfl : i = m.2.1.length := by omega
    exact ⟨_, by rw [if_neg (by omega)], cs, rfl, hc, h1, h2, h3, h4⟩

def ClosedM (m : Model) (vs : List Val) (bs : List Bool) : Prop := ∀ j, j < m.2.1.length → (nameM vs (idA m j) = true → bs.getD j false = true) ∧ ∀ i, i < m.2.1.length → bs.getD i false = true → nameM (fdA m i) (idA m j) = true → bs.getD j false = true
def SoundM (m : Model) (vs : List Val) (bs : List Bool) : Prop := ∀ k, k < m.2.1.length → bs.getD k false = true → RchT m vs (idA m k)
def MonoM (a b : List Bool) : Prop := a.length = b.length ∧ ∀ k, k < a.length → a.getD k false = true → b.getD k false = true
theorem reach_l3 (rm : RM m) (r : Int) {bs : List Bool} (hb : bs.length = m.2.1.length) (hs : SoundM m vs bs) :
    ∃ l, flotsamref24_Reach_l3 (vs, r, 0, m, bs, ()) = some l ∧ ∃ cs, l = .out (vs, r, m, cs, ()) ∧ MonoM bs cs ∧ SoundM m vs cs ∧ (cs = bs → ClosedM m vs bs) ∧ (ClosedM m vs bs → cs = bs) := by
  have hhas : ∀ j, j < m.2.1.length → hasT m (idA m j) = true := fun j hj => hasT_iff.2 (List.mem_map.2 ⟨m.2.1[j], List.getElem_mem hj, by unfold idA; rw [get_d _ _ _ hj]⟩)
  have hflds : ∀ j, j < m.2.1.length → flds m (idA m j) = fdA m j := fun j hj => (flds_at rm hj).1
  unfold flotsamref24_Reach_l3
  refine iterL_rule (fun n x => ∃ (j : Nat) (cs : List Bool), j ≤ m.2.1.length ∧ n = m.2.1.length - j ∧ x = (vs, r, (j : Int), m, cs, ()) ∧ MonoM bs cs ∧ SoundM m vs cs ∧
    (cs = bs → ∀ k, k < j → (nameM vs (idA m k) = true → bs.getD k false = true) ∧ ∀ i, i < m.2.1.length → bs.getD i false = true → nameM (fdA m i) (idA m k) = true → bs.getD k false = true) ∧ (ClosedM m vs bs → cs = bs)) ?_ _ m.2.1.length _ (by omega) ⟨0, bs, by omega, rfl, rfl, ⟨rfl, fun _ _ h => h⟩, hs, fun _ k hk => by omega, fun _ => rfl⟩
  rintro n x ⟨j, cs, j1, rfl, rfl, hm, hs', hc, hc'⟩
  have hlb := hm.1
  simp only [flotsamref24_Reach_s3, flotsamref24_Reach_s3r, Bool.cond_decide]
  by_cases hj : j < m.2.1.length
  · left
    have hl : (cs.set j (cs.getD j false || nameM vs (idA m j))).length = m.2.1.length := by rw [List.length_set]; omega
    have h0 : (cs.set j (cs.getD j false || nameM vs (idA m j))).getD j false = (cs.getD j false || nameM vs (idA m j)) := set_at (by omega)
    obtain ⟨l2, e2, ds, rfl, g1, g2, g3, g4, g5⟩ := reach_l2 hn hf (vs := vs) r hl hj
    rw [if_pos (by omega), reach_l0 hn hv hf r (by omega) hj, Option.bind_some]
    dsimp only
    rw [e2, Option.bind_some]
    dsimp only
    rw [wi64_id (by omega) (by omega)]
    have off : ∀ k, j ≠ k → ds.getD k false = cs.getD k false := fun k hk => by rw [g2 k hk, set_off hk]
    have up : cs.getD j false = true → ds.getD j false = true := fun h => g3 (by rw [h0, h]; rfl)
    have m2 : MonoM cs ds := ⟨by omega, fun k hk ht => by
      by_cases e : j = k
      · subst e; exact up ht
      · rw [off k e]; exact ht⟩
    have frm : ds.getD j false = true → cs.getD j false = true ∨ nameM vs (idA m j) = true ∨ ∃ i, i < m.2.1.length ∧ cs.getD i false = true ∧ nameM (fdA m i) (idA m j) = true := fun h => by
      have base : (cs.set j (cs.getD j false || nameM vs (idA m j))).getD j false = true → cs.getD j false = true ∨ nameM vs (idA m j) = true := fun h => by
        rw [h0, Bool.or_eq_true] at h; exact h
      rcases g5 h with h | ⟨i, hi, hb1, hb2⟩
      · rcases base h with h | h
        · exact .inl h
        · exact .inr (.inl h)
      · by_cases e : j = i
        · subst e
          rcases base hb1 with h | h
          · exact .inl h
          · exact .inr (.inl h)
        · rw [set_off e] at hb1
          exact .inr (.inr ⟨i, hi, hb1, hb2⟩)
    refine ⟨m.2.1.length - (j + 1), _, by omega, rfl, j + 1, ds, by omega, rfl, rfl, ⟨by omega, fun k hk ht => m2.2 k (by omega) (hm.2 k hk ht)⟩, fun k hk ht => ?_, fun e => ?_, fun c => ?_⟩
    · by_cases e : j = k
      · subst e
        rcases frm ht with h | h | ⟨i, hi, h1, h2⟩
        · exact hs' j hk h
        · exact .base (hhas j hk) h
        · exact .step (hs' i hi h1) (by rw [hflds i hi]; exact h2) (hhas j hk)
      · rw [off k e] at ht
        exact hs' k hk ht
    · subst e
      have e' : cs = ds := by
        have a1 := cntT_mono hm.1 hm.2
        have a2 := cntT_mono m2.1 m2.2
        exact a2.2 (by omega)
      subst e'
      intro k hk
      by_cases e : k = j
      · subst e
        refine ⟨fun h => g3 (by rw [h0, h, Bool.or_true]), fun i hi h1 h2 => ?_⟩
        by_cases e : k = i
        · subst e; exact h1
        · exact g4 i hi (by rw [set_off e]; exact h1) h2
      · exact hc rfl k (by omega)
    · have e := hc' c
      subst e
      refine List.ext_getElem (by omega) fun k k1 k2 => ?_
      rw [← get_d _ _ false k1, ← get_d _ _ false k2]
      by_cases e : j = k
      · subst e
        cases hx : cs.getD j false with
        | true => exact up hx
        | false =>
          cases hy : ds.getD j false with
          | false => rfl
          | true =>
            have : cs.getD j false = true := by
              rcases frm hy with h | h | ⟨i, hi, h1, h2⟩
              · exact h
              · exact (c j hj).1 h
              · exact (c j hj).2 i hi h1 h2
            rw [hx] at this; cases this
      · exact off k e
  · right
    obtain rfl : j = m.2.1.length := by omega
    exact ⟨_, by rw [if_neg (by omega)], cs, rfl, hm, hs', fun e => hc e, hc'⟩
theorem reach_l4 (rm : RM m) {bs : List Bool} (hb : bs.length = m.2.1.length) (hs : SoundM m vs bs) :
    ∃ l, flotsamref24_Reach_l4 (vs, 0, m, bs, ()) = some l ∧ ∃ cs, l = .out (m, cs, ()) ∧ cs.length = m.2.1.length ∧ SoundM m vs cs ∧ ClosedM m vs cs := by
  unfold flotsamref24_Reach_l4
  refine iterL_rule (fun n x => ∃ (r : Nat) (cs : List Bool), r ≤ m.2.1.length + 1 ∧ n = m.2.1.length + 1 - r ∧ x = (vs, (r : Int), m, cs, ()) ∧ cs.length = m.2.1.length ∧ SoundM m vs cs ∧ (ClosedM m vs cs ∨ r ≤ cntT cs)) ?_ _ (m.2.1.length + 1) _ (by omega) ⟨0, bs, by omega, rfl, rfl, hb, hs, .inr (Nat.zero_le _)⟩
  rintro n x ⟨r, cs, r1, rfl, rfl, hl, hs', hc⟩
  simp only [flotsamref24_Reach_s4, flotsamref24_Reach_s4r, Bool.cond_decide]
  by_cases hr : r ≤ m.2.1.length
  · left
    obtain ⟨l3, e3, ds, rfl, hm3, hs3, c1, c2⟩ := reach_l3 hn hv hf rm (r : Int) hl hs'
    have hl3 := hm3.1
    rw [if_pos (by omega), e3, Option.bind_some]
    dsimp only
    rw [wi64_id (by omega) (by omega)]
    refine ⟨m.2.1.length + 1 - (r + 1), _, by omega, rfl, r + 1, ds, by omega, rfl, rfl, by omega, hs3, ?_⟩
    by_cases e : ds = cs
    · left; rw [e]; exact c1 e
    · right
      have a := cntT_mono hm3.1 hm3.2
      rcases hc with hc | hc
      · exact absurd (c2 hc) e
      · have : cntT cs ≠ cntT ds := fun h => e (a.2 h).symm
        omega
  · right
    refine ⟨_, by rw [if_neg (by omega)], cs, rfl, hl, hs', ?_⟩
    rcases hc with hc | hc
    · exact hc
    · have := cntT_le cs
      omega
omit hv hf in
theorem reach_l5 {bs : List Bool} (p : Int → Bool) (hb : bs.length = m.2.1.length) (hp : ∀ k, k < m.2.1.length → bs.getD k false = p (idA m k)) :
    flotsamref24_Reach_l5 (0, m, bs, [], ()) = some (.out ((idsM m).filter p, ())) := by
  have hL : (idsM m).length = m.2.1.length := by simp [idsM]
  unfold flotsamref24_Reach_l5
  refine iterL_run m.2.1.length (fun i => ((i : Int), m, bs, ((idsM m).take i).filter p, ())) (fun i hi => ?_) ?_ (by omega) rfl
  · have hi' : i < (idsM m).length := by omega
    have ht : (idsM m).take (i + 1) = (idsM m).take i ++ [(idsM m)[i]] := (List.take_append_getElem hi').symm
    have hf : (((idsM m).take i).filter p).length ≤ 1000 := by
      have := List.length_filter_le p ((idsM m).take i)
      rw [List.length_take] at this; omega
    have hg := hp i hi
    have hid : (m.2.1.getD i (0, [], ()) : Thing).1 = (idsM m)[i] := by
      rw [get_d _ _ _ hi]; simp [idsM]
    have hid' : idA m i = (idsM m)[i] := hid
    simp only [flotsamref24_Reach_s5, flotsamref24_Reach_s5r, Bool.cond_decide, Int.toNat_natCast]
    rw [if_pos (by omega), if_pos (by omega), if_pos (by omega), hg, wi64_id (by omega) (by omega), ht, List.filter_append, hid']
    cases hc : p (idsM m)[i] with
    | true =>
      rw [cond_true, if_pos (by omega), if_pos (by omega), if_pos (by omega), hid]
      simp [List.filter_cons, hc]
    | false =>
      rw [cond_false]
      simp [List.filter_cons, hc]
  · simp only [flotsamref24_Reach_s5, flotsamref24_Reach_s5r, Bool.cond_decide]
    rw [if_neg (by omega), ← hL, List.take_of_length_le (Nat.le_refl _)]
/-- The reference's answer: the same things. -/
theorem reach24_eq (rm : RM m) : flotsamref24_Reach (m, vs, ()) = some ((idsM m).filter (rchT m vs), ()) := by
  obtain ⟨l4, e4, cs, rfl, hl, hs, hc⟩ := reach_l4 hn hv hf rm (vs := vs) (bs := List.replicate m.2.1.length false) (by rw [List.length_replicate]) (fun k hk ht => by
    simp only [List.getD, List.getElem?_replicate] at ht
    split at ht <;> simp at ht)
  have hp : ∀ k, k < m.2.1.length → cs.getD k false = rchT m vs (idA m k) := fun k hk => by
    have hcomp : ∀ a, RchT m vs a → ∀ k, k < m.2.1.length → idA m k = a → cs.getD k false = true := by
      intro a ra
      induction ra with
      | base ho hnm =>
        intro k hk e
        exact (hc k hk).1 (by rw [e]; exact hnm)
      | step ra hin ho ih =>
        intro k hk e
        obtain ⟨t, ht, et⟩ := List.mem_map.1 (hasT_iff.1 ra.has)
        obtain ⟨j, hj, ej⟩ := List.getElem_of_mem ht
        have ej' : idA m j = _ := (show idA m j = t.1 by unfold idA; rw [get_d _ _ _ hj, ej]).trans et
        refine (hc k hk).2 j hj (ih j hj ej') ?_
        rw [e, ← (show flds m (idA m j) = fdA m j from (flds_at rm hj).1), ej']
        exact hin
    cases hx : rchT m vs (idA m k) with
    | true => exact hcomp _ (rchT_iff.1 hx) k hk rfl
    | false =>
      cases hy : cs.getD k false with
      | false => rfl
      | true =>
        have := rchT_iff.2 (hs k hk hy)
        rw [hx] at this; cases this
  simp only [flotsamref24_Reach, flotsamref24_Reach_r, Bool.cond_decide, beq_self_eq_true, cond_true, Int.toNat_natCast]
  rw [if_pos (by omega), if_pos (by omega), e4, Option.bind_some]
  dsimp only
  rw [reach_l5 hn (rchT m vs) hl hp, Option.bind_some]
end
end Go.Proofs.Ytdiogegolnoeoaa.Den
