
/- Pure laws: what is painted. -/
import Derived.Test.YtdiogegolnoeoaaDoorDenPq
namespace Go.Proofs.YtdiogegolnoeoaaDoor.Den
open Go
set_option linter.unusedVariables false
set_option linter.unusedSimpArgs false
set_option maxRecDepth 100000

def pn (h : Heap) (S : Int → Bool) : Heap := (h.1.mapIdx (fun i w => if (S (i : Int) && (og h (i : Int)).2.1) = true then pw h.2.2.1 w else w), h.2.1, h.2.2)
theorem pn_len (h : Heap) (S : Int → Bool) : (pn h S).1.length = h.1.length := by
  simp [pn]
theorem pn_word (h : Heap) (S : Int → Bool) (i : Nat) (hi : i < h.1.length) : (pn h S).1.getD i 0 = if (S (i : Int) && (og h (i : Int)).2.1) = true then pw h.2.2.1 (h.1.getD i 0) else h.1.getD i 0 := by
  rw [get_d _ _ _ (by rw [pn_len]; exact hi), get_d _ _ _ hi]
  simp [pn]
theorem pw_hok {s : Bool} {w : Int} (h : hok w = true) : hok (pw s w) = true := by
  have h1 := hok_rng h
  have h2 := pw_rng s w
  simp only [hok, Bool.and_eq_true, decide_eq_true_eq] at h ⊢
  have e1 : pw s w % 16 = w % 16 := by unfold pw; cases s <;> simp only [cond_true, cond_false] <;> omega
  have e2 : pw s w / 16 % 4 = w / 16 % 4 := by unfold pw; cases s <;> simp only [cond_true, cond_false] <;> omega
  rw [e1, e2]
  exact ⟨by omega, h.2⟩
theorem pw_hd (s : Bool) (w : Int) : hd (pw s w) = (true, s, w / 16 % 4, w % 16, ()) := by
  have e1 : pw s w % 16 = w % 16 := by unfold pw; cases s <;> simp only [cond_true, cond_false] <;> omega
  have e2 : pw s w / 16 % 4 = w / 16 % 4 := by unfold pw; cases s <;> simp only [cond_true, cond_false] <;> omega
  have e3 : decide (pw s w / 64 % 2 = 1) = s := by
    unfold pw; cases s <;> simp only [cond_true, cond_false]
    · exact decide_eq_false (by omega)
    · exact decide_eq_true (by omega)
  unfold hd
  rw [e1, e2, e3]
theorem pw_pw (s : Bool) (w : Int) : pw s (pw s w) = pw s w := by
  unfold pw; cases s <;> simp only [cond_true, cond_false] <;> omega
theorem pw_same {w : Int} (h : hok w = true) : pw (decide (w / 64 % 2 = 1)) w = w := by
  have h1 := hok_rng h
  unfold pw
  by_cases e : w / 64 % 2 = 1
  · rw [decide_eq_true e]; simp only [cond_true]; omega
  · rw [decide_eq_false e]; simp only [cond_false]; omega
theorem fndB_pn (h : Heap) (S : Int → Bool) (a : Int) : fndB (pn h S) a = fndB h a := rfl
/-- An object of a heap that is painted. -/
theorem og_pn {h : Heap} (f : FormP h) (S : Int → Bool) (a : Int) : og (pn h S) a = if (og h a).2.1 = true then ((true, (if S a = true then h.2.2.1 else (og h a).1.2.1), (og h a).1.2.2.1, (og h a).1.2.2.2.1, ()), true, ()) else (hz, false, ()) := by
  have hl := f.len
  by_cases hb : fndB h a = true
  · have hr := fndB_rng hb
    obtain ⟨i, rfl⟩ := Int.eq_ofNat_of_zero_le hr.1
    by_cases ho : (og h (i : Int)).2.1 = true
    · obtain ⟨e1, e2, e3, e4⟩ := og_ok ho
      rw [if_pos ho]
      simp only [Int.toNat_natCast] at e2 e3 e4
      have hw : (pn h S).1.getD i 0 = if S (i : Int) = true then pw h.2.2.1 (h.1.getD i 0) else h.1.getD i 0 := by
        rw [pn_word _ _ _ (by omega), ho, Bool.and_true]
      have h16 : (pn h S).1.getD i 0 % 16 = h.1.getD i 0 % 16 := by
        rw [hw]; split
        · unfold pw; cases h.2.2.1 <;> simp only [cond_true, cond_false] <;> omega
        · rfl
      have hk : hok ((pn h S).1.getD i 0) = true := by
        rw [hw]; split
        · exact pw_hok e2
        · exact e2
      rw [e4]
      unfold og
      rw [fndB_pn, hb, Int.toNat_natCast, hk, h16, if_pos (by simpa using e3), hw]
      by_cases hS : S (i : Int) = true
      · simp only [if_pos hS, pw_hd]; rfl
      · simp only [if_neg hS]; rfl
    · rw [if_neg ho]
      have hw : (pn h S).1.getD i 0 = h.1.getD i 0 := by
        rw [pn_word _ _ _ (by omega)]
        simp only [Bool.not_eq_true] at ho
        rw [ho, Bool.and_false, if_neg (by decide)]
      have : og (pn h S) (i : Int) = og h (i : Int) := by
        unfold og
        rw [fndB_pn, Int.toNat_natCast, hw]
      rw [this]
      unfold og at ho ⊢
      split at ho
      · exact absurd rfl ho
      · rename_i hc; rw [if_neg hc]
  · have : (og h a).2.1 = false := by
      unfold og; rw [if_neg (by simp [hb])]
    rw [this, if_neg (by decide)]
    unfold og
    rw [fndB_pn, if_neg (by simp [hb])]
theorem ok_pn {h : Heap} (f : FormP h) (S : Int → Bool) (a : Int) : (og (pn h S) a).2.1 = (og h a).2.1 := by
  rw [og_pn f]
  cases e : (og h a).2.1 <;> rfl
theorem bk_pn {h : Heap} (f : FormP h) (S : Int → Bool) (a : Int) : bk (pn h S) a = ((og h a).2.1 && (S a || bk h a)) := by
  unfold bk
  rw [og_pn f]
  cases e : (og h a).2.1
  · simp
  · cases e' : S a
    · simp; rfl
    · simp [pn]
theorem FormP.pn {h : Heap} (f : FormP h) (S : Int → Bool) : FormP (pn h S) := by
  refine ⟨f.n1, f.n16, ?_, f.right, fun w hw => ?_⟩
  · rw [pn_len]; exact f.len
  · obtain ⟨i, hi, rfl⟩ := List.mem_iff_getElem.1 hw
    have hi' := hi
    rw [pn_len] at hi'
    have := pn_word h S i hi'
    rw [get_d _ _ _ hi] at this
    rw [this]
    split
    · have := pw_rng h.2.2.1 (h.1.getD i 0); omega
    · exact word_at f i
theorem heap_ext {a b : Heap} (hl : a.1.length = b.1.length) (hw : ∀ i, i < a.1.length → a.1.getD i 0 = b.1.getD i 0) (h2 : a.2 = b.2) : a = b := by
  refine Prod.ext (list_eq_of hl fun j h1 h2 => ?_) h2
  have := hw j h1
  rw [get_d _ _ _ h1, get_d _ _ _ h2] at this
  exact this
/-- Two sets paint alike if they have the same white objects. -/
theorem pn_congr {h : Heap} (f : FormP h) {S T : Int → Bool} (hs : ∀ a, (og h a).2.1 = true → bk h a = false → S a = T a) : pn h S = pn h T := by
  refine heap_ext (by rw [pn_len, pn_len]) (fun i hi => ?_) rfl
  rw [pn_len] at hi
  rw [pn_word _ _ _ hi, pn_word _ _ _ hi]
  cases ho : (og h (i : Int)).2.1
  · simp
  · simp only [Bool.and_true]
    cases hb : bk h (i : Int)
    · rw [hs _ ho hb]
    · obtain ⟨e1, e2, e3, e4⟩ := og_ok ho
      simp only [Int.toNat_natCast] at e2 e3 e4
      have : pw h.2.2.1 (h.1.getD i 0) = h.1.getD i 0 := by
        unfold bk at hb
        rw [ho, e4] at hb
        simp only [Bool.true_and, hd, beq_iff_eq] at hb
        rw [← hb]; exact pw_same e2
      rw [this]; simp
theorem pn_pn {h : Heap} (f : FormP h) (S T : Int → Bool) : pn (pn h S) T = pn h (fun a => S a || T a) := by
  refine heap_ext (by rw [pn_len, pn_len, pn_len]) (fun i hi => ?_) rfl
  rw [pn_len, pn_len] at hi
  rw [pn_word _ _ _ (by rw [pn_len]; exact hi), pn_word _ _ _ hi, pn_word _ _ _ hi, ok_pn f]
  have hs : (pn h S).2.2.1 = h.2.2.1 := rfl
  rw [hs]
  cases (og h (i : Int)).2.1
  · simp
  · cases S (i : Int)
    · simp
    · cases T (i : Int)
      · simp
      · simp [pw_pw]
theorem pn_none {h : Heap} : pn h (fun _ => false) = h := by
  refine heap_ext (by rw [pn_len]) (fun i hi => ?_) rfl
  rw [pn_len] at hi
  rw [pn_word _ _ _ hi]; simp
theorem nh_pn {h : Heap} (f : FormP h) {a : Int} (ho : (og h a).2.1 = true) : nh h a = pn h (fun b => a == b) := by
  obtain ⟨e1, e2, e3, e4⟩ := og_ok ho
  have hr := fndB_rng e1
  have hl := f.len
  obtain ⟨k, rfl⟩ := Int.eq_ofNat_of_zero_le hr.1
  refine heap_ext (by rw [pn_len]; show (h.1.set _ _).length = _; rw [List.length_set]) (fun i hi => ?_) rfl
  have hi : i < h.1.length := by
    have : (nh h (k : Int)).1.length = h.1.length := by show (h.1.set _ _).length = _; rw [List.length_set]
    omega
  rw [pn_word _ _ _ hi]
  show (h.1.set _ _).getD i 0 = _
  rw [get_d _ _ _ (by rw [List.length_set]; exact hi), List.getElem_set, Int.toNat_natCast]
  by_cases e : k = i
  · subst e
    rw [if_pos rfl, ho]; simp
  · rw [if_neg e]
    have : ((k : Int) == (i : Int)) = false := by rw [ibeq]; exact decide_eq_false (by omega)
    rw [this, Bool.false_and, if_neg (by decide), get_d _ _ _ hi]
def one (v : Val) (p : Int) : Bool := v.1 == 2 && v.2.1 == p
def named (vs : List Val) (p : Int) : Bool := vs.any fun v => one v p
theorem sh_heap {h : Heap} (f : FormP h) (g : Grey) (v : Val) : (sh h g v).1 = pn h (one v) := by
  unfold sh
  split
  · rename_i hc
    show nh h v.2.1 = _
    rw [nh_pn f hc.2.1]
    congr 1
    funext b
    simp [one, hc.1]
  · rename_i hc
    show h = _
    rw [pn_congr f (T := fun _ => false), pn_none]
    intro a ho hb
    by_cases e : v.1 = 2
    · by_cases e' : v.2.1 = a
      · exact absurd ⟨e, by rw [e']; exact ho, by rw [e']; exact hb⟩ hc
      · simp [one, e']
    · simp [one, e]
theorem fold_heap : ∀ (vs : List Val) (s : ShT), FormP s.1 → (vs.foldl as1 s).1 = pn s.1 (named vs)
  | [], s, f => by
    show s.1 = _
    exact pn_none.symm
  | v :: vs, s, f => by
    rw [List.foldl_cons, fold_heap vs (as1 s v) (by show FormP (sh s.1 s.2.1 v).1; rw [sh_heap f]; exact f.pn _)]
    show pn (sh s.1 s.2.1 v).1 _ = _
    rw [sh_heap f, pn_pn f]
    rfl
theorem fold_idle : ∀ (vs : List Val) (s : ShT), (∀ v : Val, v ∈ vs → v.1 = 2 → (og s.1 v.2.1).2.1 = true → bk s.1 v.2.1 = true) → vs.foldl as1 s = s
  | [], s, h => rfl
  | v :: vs, s, h => by
    have e : as1 s v = s := by
      have : sh s.1 s.2.1 v = (s.1, s.2.1, false, ()) := by
        unfold sh
        rw [if_neg]
        rintro ⟨h1, h2, h3⟩
        rw [h v (List.mem_cons_self) h1 h2] at h3
        cases h3
      unfold as1
      rw [this]
      simp
    rw [List.foldl_cons, e]
    exact fold_idle vs s fun v' hv' => h v' (List.mem_cons_of_mem _ hv')
theorem named_black {h : Heap} (f : FormP h) (vs : List Val) (v : Val) (hv : v ∈ vs) (h2 : v.1 = 2) (ho : (og (pn h (named vs)) v.2.1).2.1 = true) : bk (pn h (named vs)) v.2.1 = true := by
  rw [bk_pn f]
  rw [ok_pn f] at ho
  rw [ho]
  have : named vs v.2.1 = true := List.any_eq_true.2 ⟨v, hv, by simp [one, h2]⟩
  rw [this]; rfl
end Go.Proofs.YtdiogegolnoeoaaDoor.Den
