/- Pure laws: what marking keeps. -/
import Derived.Test.YtdiogegolnoeoaaDoorDenVc
import Derived.Test.YtdiogegolnoeoaaDoorDenVa
namespace Go.Proofs.YtdiogegolnoeoaaDoor.Den
open Go
set_option linter.unusedVariables false
set_option linter.unusedSimpArgs false
set_option maxRecDepth 100000

/-! ### fields stay -/
theorem no_obj {h : Heap} (f : FormP h) (ha : apB h = true) {a : Int} (ho : (og h a).2.1 = true) {j : Int} (h0 : 0 ≤ j) (hj : j < cnt h a) : okA h (a + 1 + j) = false := by
  cases hb : okA h (a + 1 + j)
  · rfl
  exfalso
  unfold okA at hb
  have hr := og_rng f ho
  obtain ⟨a1, a2, a3, a4⟩ := og_ok ho
  obtain ⟨b1, -, -, -⟩ := og_ok hb
  have hc := apart_of f ha ho
  unfold cnt at hj
  have hsp : spanOf h (a + 1 + j) = spanOf h a := by
    unfold spanOf
    rw [show (a + 1 + j) / 32 = a / 32 by omega]
  simp only [fndB, decide_eq_true_eq] at a1 b1
  rw [hsp] at b1
  rw [a4] at hc hj hr
  simp only [hd] at hc hj hr
  simp only [hok, Bool.and_eq_true, decide_eq_true_eq] at a2
  rw [hc] at a2
  have hcl := f.spanAt (a := a) (by omega) (by omega) a1.2.2.1
  have hw : h.1.getD a.toNat 0 % 16 < cw (spanOf h a).2.1 := by
    have e := a2.2
    generalize (spanOf h a).2.1 = c at *
    obtain rfl | rfl | rfl | rfl : c = 0 ∨ c = 1 ∨ c = 2 ∨ c = 3 := by omega
    all_goals exact e
  have m1 := a1.2.2.2
  have m2 := b1.2.2.2
  have h4 := class4 hcl.1 hcl.2
  generalize cw (spanOf h a).2.1 = w at *
  generalize cb (spanOf h a).2.1 = b at *
  generalize h.1.getD a.toNat 0 % 16 = c at *
  clear a1 b1 a2 hc
  rcases h4 with ⟨rfl, rfl⟩ | ⟨rfl, rfl⟩ | ⟨rfl, rfl⟩ | ⟨rfl, rfl⟩ <;> omega
theorem okA_pn {h : Heap} (f : FormP h) (S : Int → Bool) (a : Int) : okA (pn h S) a = okA h a := ok_pn f S a
theorem cnt_pnA {h : Heap} (f : FormP h) (S : Int → Bool) {a : Int} (ho : okA h a = true) : cnt (pn h S) a = cnt h a := by
  unfold cnt
  rw [og_pn f, if_pos (show (og h a).2.1 = true from ho)]
theorem fe_pn {h : Heap} (f : FormP h) (S : Int → Bool) (a i : Int) : fe (pn h S) a i = fe h a i := by
  unfold fe
  rw [ok_pn f]
  by_cases ho : (og h a).2.1 = true
  · rw [if_pos ho, if_pos ho, show (og (pn h S) a).1.2.2.2.1 = (og h a).1.2.2.2.1 from cnt_pnA f S ho]
  · rw [if_neg ho, if_neg ho]
theorem word_pn {h : Heap} (f : FormP h) (ha : apB h = true) (S : Int → Bool) {a i : Int} (he : fe h a i = 0) : (pn h S).1.getD (a + 1 + i).toNat 0 = h.1.getD (a + 1 + i).toNat 0 := by
  obtain ⟨ho, i0, i1⟩ := fe_ok he
  have hr := og_rng f ho
  have hl := f.len
  have hc : cnt h a = (og h a).1.2.2.2.1 := rfl
  have e : (((a + 1 + i).toNat : Nat) : Int) = a + 1 + i := by omega
  rw [pn_word _ _ _ (by omega), e]
  have := no_obj f ha ho i0 i1
  unfold okA at this
  rw [this]; simp
theorem fldV_pn {h : Heap} (f : FormP h) (ha : apB h = true) (S : Int → Bool) (a i : Int) : fldV (pn h S) a i = fldV h a i := by
  unfold fldV
  rw [fe_pn f]
  by_cases he : fe h a i = 0
  · rw [if_pos he, if_pos he, word_pn f ha S he]
  · rw [if_neg he, if_neg he]
theorem lst_pn {h : Heap} (f : FormP h) (S : Int → Bool) : lst (pn h S) = lst h := by
  unfold lst lstN
  rw [pn_len]
  exact List.filter_congr fun a _ => okA_pn f S a
theorem rfN_pnA {h : Heap} (f : FormP h) (ha : apB h = true) (S : Int → Bool) {a : Int} (ho : okA h a = true) : ∀ n : Nat, (n : Int) ≤ cnt h a → rfN (pn h S) a n = rfN h a n
  | 0, _ => by simp [rfN]
  | n + 1, hn => by
    have he : fe h a (n : Int) = 0 := by
      unfold fe
      rw [if_pos (show (og h a).2.1 = true from ho), if_pos]
      have : cnt h a = (og h a).1.2.2.2.1 := rfl
      omega
    rw [rfN_succ, rfN_succ, word_pn f ha S he, rfN_pnA f ha S ho n (by omega)]
theorem refsO_pn {h : Heap} (f : FormP h) (ha : apB h = true) (S : Int → Bool) {a : Int} (ho : okA h a = true) : refsO (pn h S) a = refsO h a := by
  have := (og_rng f ho).2.2.1
  have e : cnt h a = (og h a).1.2.2.2.1 := rfl
  unfold refsO
  rw [cnt_pnA f S ho, rfN_pnA f ha S ho _ (by omega)]
/-- A field refers to an object. -/
structure Tgt (h : Heap) (a i b : Int) : Prop where
  fe : fe h a i = 0
  k : (fldV h a i).1 = 2
  n : (fldV h a i).2.1 = b
  ok : okA h b = true
theorem mem_rfN {h : Heap} {a b : Int} : ∀ {n : Nat}, b ∈ rfN h a n ↔ ∃ i : Nat, i < n ∧ (rg (h.1.getD (a + 1 + i).toNat 0)).1 = 2 ∧ (rg (h.1.getD (a + 1 + i).toNat 0)).2.1 = b
  | 0 => by simp [rfN]
  | n + 1 => by
    rw [rfN_succ]
    constructor
    · intro hb
      split at hb
      · rename_i h2
        rcases List.mem_append.1 hb with hb | hb
        · obtain ⟨i, h1, h3⟩ := mem_rfN.1 hb
          exact ⟨i, by omega, h3⟩
        · exact ⟨n, by omega, h2, (List.mem_singleton.1 hb).symm⟩
      · obtain ⟨i, h1, h3⟩ := mem_rfN.1 hb
        exact ⟨i, by omega, h3⟩
    · rintro ⟨i, h1, h2, h3⟩
      by_cases e : i = n
      · subst e
        rw [if_pos h2, List.mem_append]
        exact .inr (List.mem_singleton.2 h3.symm)
      · have := mem_rfN.2 ⟨i, show i < n by omega, h2, h3⟩
        split
        · exact List.mem_append_left _ this
        · exact this
theorem fldV_rg {h : Heap} (f : FormP h) {a i : Int} (he : fe h a i = 0) : fldV h a i = rg (h.1.getD (a + 1 + i).toNat 0) := by
  have hw := word_at f (a + 1 + i).toNat
  unfold fldV
  rw [if_pos he, wg_rg hw.1 hw.2]
theorem tgt_refs {h : Heap} (f : FormP h) {a i b : Int} (t : Tgt h a i b) : b ∈ refsO h a := by
  obtain ⟨ho, i0, i1⟩ := fe_ok t.fe
  have h1 := t.k
  have h2 := t.n
  rw [fldV_rg f t.fe] at h1 h2
  refine mem_rfN.2 ⟨i.toNat, by omega, ?_, ?_⟩
  · rw [Int.toNat_of_nonneg i0]; exact h1
  · rw [Int.toNat_of_nonneg i0]; exact h2
theorem refs_tgt {h : Heap} (f : FormP h) {a b : Int} (ho : okA h a = true) (hb : b ∈ refsO h a) (hob : okA h b = true) : ∃ i, Tgt h a i b := by
  obtain ⟨i, h1, h2, h3⟩ := mem_rfN.1 hb
  have he : fe h a (i : Int) = 0 := by
    unfold fe
    rw [if_pos (show (og h a).2.1 = true from ho), if_pos]
    have : cnt h a = (og h a).1.2.2.2.1 := rfl
    omega
  exact ⟨i, he, by rw [fldV_rg f he]; exact h2, by rw [fldV_rg f he]; exact h3, hob⟩
theorem bk_ok {h : Heap} {a : Int} (hb : bk h a = true) : okA h a = true := by
  unfold bk at hb
  rw [Bool.and_eq_true] at hb
  exact hb.1

/-! ### steps, one by one -/
/-- What a value does when it is shaded. -/
inductive Shd (h : Heap) (g : Grey) (v : Val) : Heap → Grey → Bool → Prop
  | none : (v.1 = 2 → okA h v.2.1 = true → bk h v.2.1 = true) → Shd h g v h g false
  | push : v.1 = 2 → okA h v.2.1 = true → bk h v.2.1 = false → 0 ≤ v.2.1 → (g.2.1.length : Int) < g.1 → Shd h g v (pn h (fun b => v.2.1 == b)) (g.1, g.2.1 ++ [v.2.1], ()) false
  | full : v.1 = 2 → okA h v.2.1 = true → bk h v.2.1 = false → Shd h g v (pn h (fun b => v.2.1 == b)) g true
theorem shd {h : Heap} (f : FormP h) (g : Grey) (v : Val) : Shd h g v (sh h g v).1 (sh h g v).2.1 (sh h g v).2.2.1 := by
  unfold sh
  by_cases hc : v.1 = 2 ∧ (og h v.2.1).2.1 = true ∧ bk h v.2.1 = false
  · rw [if_pos hc]
    obtain ⟨h1, h2, h3⟩ := hc
    have h0 := (fndB_rng (og_ok h2).1).1
    show Shd h g v (nh h v.2.1) (gp g v.2.1).1 (!(gp g v.2.1).2.1)
    rw [nh_pn f h2]
    unfold gp
    by_cases hr : v.2.1 < 0 ∨ g.1 ≤ g.2.1.length
    · rw [if_pos hr]
      exact .full h1 h2 h3
    · rw [if_neg hr]
      exact .push h1 h2 h3 h0 (by omega)
  · rw [if_neg hc]
    refine .none fun h1 h2 => ?_
    cases h3 : bk h v.2.1 with
    | true => rfl
    | false => exact absurd ⟨h1, h2, h3⟩ hc
inductive Stp (h : Heap) : MarkT → Heap → MarkT → Prop
  | fld {g g' : Grey} {bs : List Grey} {rs : List Val} {o i c : Int} {v w : Bool} {h' : Heap} : o ≠ -1 → fe h o i = 0 → Shd h g (fldV h o i) h' g' w →
      Stp h (g, bs, rs, o, i, c, v, ()) h' (g', bs, rs, (if cnt h o ≤ i + 1 then -1 else o), (if cnt h o ≤ i + 1 then 0 else i + 1), c, v || w, ())
  | pop {r : Int} {l : List Int} {a : Int} {bs : List Grey} {rs : List Val} {c : Int} {v : Bool} : Stp h ((r, l ++ [a], ()), bs, rs, -1, 0, c, v, ()) h (hand h ((r, l, ()), bs, rs, -1, 0, c, v, ()) a)
  | row {g : Grey} {xs ys : List Grey} {r : Int} {l : List Int} {a : Int} {rs : List Val} {c : Int} {v : Bool} : Stp h (g, xs ++ (r, l ++ [a], ()) :: ys, rs, -1, 0, c, v, ()) h (hand h (g, xs ++ (r, l, ()) :: ys, rs, -1, 0, c, v, ()) a)
  | root {g g' : Grey} {bs : List Grey} {x : Val} {rs : List Val} {c : Int} {v w : Bool} {h' : Heap} : Shd h g x h' g' w → Stp h (g, bs, x :: rs, -1, 0, c, v, ()) h' (g', bs, rs, -1, 0, c, v || w, ())
  | cur {g : Grey} {bs : List Grey} {rs : List Val} {c : Int} {v : Bool} {a : Int} : c ≠ -1 → c ≤ a → bk h a = true → (∀ x, c ≤ x → bk h x = true → a ≤ x) → Stp h (g, bs, rs, -1, 0, c, v, ()) h (hand h (g, bs, rs, -1, 0, a + 1, v, ()) a)
  | noc {g : Grey} {bs : List Grey} {rs : List Val} {c : Int} {v : Bool} : c ≠ -1 → (∀ x, c ≤ x → bk h x = false) → Stp h (g, bs, rs, -1, 0, c, v, ()) h (g, bs, rs, -1, 0, -1, v, ())
  | ovr {g : Grey} {bs : List Grey} {rs : List Val} : Stp h (g, bs, rs, -1, 0, -1, true, ()) h (g, bs, rs, -1, 0, 0, false, ())
/-- Nothing is to be done any more. -/
structure Dn (m : MarkT) : Prop where
  g : m.1.2.1 = []
  b : ∀ g ∈ m.2.1, g.2.1 = []
  r : m.2.2.1 = []
  o : m.2.2.2.1 = -1
  c : m.2.2.2.2.2.1 = -1
  v : m.2.2.2.2.2.2.1 = false
theorem concat_last {l : List Int} (h : l ≠ []) : l = initI l ++ [lastI l] := by
  have hp : 0 < l.length := List.length_pos_iff.2 h
  have e := List.take_append_getElem (l := l) (i := l.length - 1) (by omega)
  unfold initI lastI
  rw [get_d _ _ _ (by omega), e, List.take_of_length_le (by omega)]
theorem stp_cases {h : Heap} (f : FormP h) {m : MarkT} (p : MkP h m) : (stp h m = (h, m, true, ()) ∧ Dn m) ∨ ∃ h' m', stp h m = (h', m', false, ()) ∧ Stp h m h' m' := by
  obtain ⟨⟨gr, gl, ⟨⟩⟩, bs, rs, o, i, c, v, ⟨⟩⟩ := m
  unfold stp
  simp only
  by_cases ho : o = -1
  · subst ho
    have hi : i = 0 := by
      rcases p.ob with h1 | h1
      · exact h1.2
      · have := (fndB_rng (og_ok (fe_ok h1).1).1).1
        simp only at this
        omega
    subst hi
    rw [if_pos rfl]
    by_cases hg : gl = []
    · rw [if_pos hg]
      cases hf : fstB bs with
      | some k =>
        obtain ⟨k1, k2, -⟩ := fstB_some hf
        have hne : (bs.getD k (0, [], ())).2.1 ≠ [] := List.length_pos_iff.1 k2
        refine .inr ⟨_, _, rfl, ?_⟩
        have e1 : bs = bs.take k ++ ((bs.getD k (0, [], ())).1, initI (bs.getD k (0, [], ())).2.1 ++ [lastI (bs.getD k (0, [], ())).2.1], ()) :: bs.drop (k + 1) := by
          rw [← concat_last hne, get_d _ _ _ k1]
          exact (List.take_append_drop k bs).symm.trans (by rw [List.drop_eq_getElem_cons k1])
        have e2 : bs.set k (popG (bs.getD k (0, [], ()))).1 = bs.take k ++ ((bs.getD k (0, [], ())).1, initI (bs.getD k (0, [], ())).2.1, ()) :: bs.drop (k + 1) := by
          unfold popG
          rw [if_neg hne, List.set_eq_take_append_cons_drop, if_pos k1]
        rw [e2]
        have := @Stp.row h (gr, gl, ()) (bs.take k) (bs.drop (k + 1)) (bs.getD k (0, [], ())).1 (initI (bs.getD k (0, [], ())).2.1) (lastI (bs.getD k (0, [], ())).2.1) rs c v
        rw [← e1] at this
        exact this
      | none =>
        have hz := fstB_none hf
        cases rs with
        | cons x xs =>
          exact .inr ⟨_, _, rfl, .root (shd f _ _)⟩
        | nil =>
          simp only
          by_cases hc : c = -1
          · subst hc
            rw [if_pos rfl]
            cases v with
            | true => exact .inr ⟨_, _, rfl, .ovr⟩
            | false =>
              refine .inl ⟨rfl, hg, fun g hg => ?_, rfl, rfl, rfl, rfl⟩
              obtain ⟨j, hj, rfl⟩ := List.getElem_of_mem hg
              have := hz j hj
              rw [get_d _ _ _ hj] at this
              exact List.eq_nil_of_length_eq_zero this
          · rw [if_neg hc]
            cases hn : nxt h c with
            | some a =>
              unfold nxt at hn
              have h1 := List.find?_some hn
              rw [Bool.and_eq_true, decide_eq_true_eq] at h1
              refine .inr ⟨_, _, rfl, .cur hc h1.1 h1.2 fun x hx hb => ?_⟩
              obtain ⟨_, j, hj, e, hlt⟩ := List.find?_eq_some_iff_getElem.1 hn
              obtain ⟨k, hk, rfl⟩ := List.getElem_of_mem ((mem_lst f).2 (bk_ok hb))
              have hs := List.pairwise_iff_getElem.1 (lst_sorted h)
              rcases Nat.lt_trichotomy k j with hkj | hkj | hkj
              · have := hlt k hkj
                rw [hb, decide_eq_true hx] at this
                cases this
              · subst hkj; omega
              · have := hs j k hj hk hkj
                omega
            | none =>
              unfold nxt at hn
              rw [List.find?_eq_none] at hn
              refine .inr ⟨_, _, rfl, .noc hc fun x hx => ?_⟩
              cases hb : bk h x with
              | false => rfl
              | true =>
                have := hn x ((mem_lst f).2 (bk_ok hb))
                rw [hb, decide_eq_true hx] at this
                exact absurd rfl this
    · rw [if_neg hg]
      refine .inr ⟨_, _, rfl, ?_⟩
      have := @Stp.pop h gr (initI gl) (lastI gl) bs rs c v
      rw [← concat_last hg] at this
      simp only [popG, if_neg hg]
      exact this
  · rw [if_neg ho]
    have he : fe h o i = 0 := p.ob.resolve_left fun h => ho h.1
    have := Stp.fld (g := (gr, gl, ())) (bs := bs) (rs := rs) (c := c) (v := v) ho he (shd f (gr, gl, ()) (fldV h o i))
    by_cases hc : cnt h o ≤ i + 1
    · rw [if_pos hc]
      rw [if_pos hc, if_pos hc] at this
      exact .inr ⟨_, _, rfl, this⟩
    · rw [if_neg hc]
      rw [if_neg hc, if_neg hc] at this
      exact .inr ⟨_, _, rfl, this⟩
/-- What is noted, likewise. -/
theorem nt_cases {h : Heap} (f : FormP h) {m : MarkT} {k : Nat} (hk : k < m.2.1.length) (v : Val) : ∃ xs g ys g' w, m.2.1 = xs ++ g :: ys ∧ Shd h g v (nt h m k v).1 g' w ∧ (nt h m k v).2 = (m.1, xs ++ g' :: ys, m.2.2.1, m.2.2.2.1, m.2.2.2.2.1, m.2.2.2.2.2.1, m.2.2.2.2.2.2.1 || w, ()) := by
  refine ⟨m.2.1.take k, m.2.1.getD k (0, [], ()), m.2.1.drop (k + 1), _, _, ?_, shd f (m.2.1.getD k (0, [], ())) v, ?_⟩
  · rw [get_d _ _ _ hk]
    exact (List.take_append_drop k m.2.1).symm.trans (by rw [List.drop_eq_getElem_cons hk])
  · unfold nt
    rw [List.set_eq_take_append_cons_drop, if_pos hk]
end Go.Proofs.YtdiogegolnoeoaaDoor.Den
