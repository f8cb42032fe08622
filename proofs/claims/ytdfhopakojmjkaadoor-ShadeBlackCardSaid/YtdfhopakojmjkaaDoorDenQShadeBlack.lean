/- The pure law ShadeBlack: how many are shaded. -/
import Derived.Test.YtdfhopakojmjkaaDoorDenPl
namespace Go.Proofs.YtdfhopakojmjkaaDoor.Den
open Go
set_option linter.unusedVariables false
set_option linter.unusedSimpArgs false
set_option maxRecDepth 100000

theorem countP_one {q : Int → Bool} {p : Int} (hq : q p = false) : ∀ {l : List Int}, l.Pairwise (· < ·) → p ∈ l → l.countP (fun x => q x || p == x) = l.countP q + 1
  | [], _, h => by cases h
  | b :: t, hp, h => by
    rw [List.pairwise_cons] at hp
    rw [List.countP_cons, List.countP_cons]
    by_cases e : p = b
    · subst e
      have : t.countP (fun x => q x || p == x) = t.countP q := by
        refine List.countP_congr fun x hx => ?_
        have := hp.1 x hx
        have : (p == x) = false := by rw [ibeq]; exact decide_eq_false (by omega)
        rw [this, Bool.or_false]
      rw [this, hq]; simp
    · have h' : p ∈ t := by
        rcases List.mem_cons.1 h with h | h
        · exact absurd h e
        · exact h
      rw [countP_one hq hp.2 h']
      have : (p == b) = false := by rw [ibeq]; exact decide_eq_false e
      rw [this, Bool.or_false]
      omega
theorem lst_sorted (h : Heap) : (lst h).Pairwise (· < ·) := by
  unfold lst lstN
  refine List.Pairwise.filter _ ?_
  rw [List.pairwise_map]
  exact List.pairwise_lt_range.imp fun {a b} h => by omega
def frP (h : Heap) (vs : List Val) (p : Int) : Bool := !bk h p && named vs p
def frC (h : Heap) (vs : List Val) : Nat := (lst h).countP (frP h vs)
theorem named_snoc (vs : List Val) (v : Val) (p : Int) : named (vs ++ [v]) p = (named vs p || one v p) := by
  simp [named]
structure ShP (h : Heap) (g : Grey) (vs : List Val) (s : ShT) : Prop where
  room : s.2.1.1 = g.1
  len : s.2.1.2.1.length = g.2.1.length + min (frC h vs) (g.1.toNat - g.2.1.length)
  over : s.2.2.1 = decide (g.1.toNat - g.2.1.length < frC h vs)
  mem : s.2.2.1 = false → ∀ p, okA h p = true → frP h vs p = true → p ∈ s.2.1.2.1
theorem shP_snoc {h : Heap} (f : FormP h) {g : Grey} (gg : GreyP g) {vs : List Val} {s : ShT} (hs : s.1 = pn h (named vs)) (p : ShP h g vs s) (v : Val) : ShP h g (vs ++ [v]) (as1 s v) := by
  have r0 := gg.r0
  have rl := gg.len
  by_cases hc : v.1 = 2 ∧ (og s.1 v.2.1).2.1 = true ∧ bk s.1 v.2.1 = false
  · have e : sh s.1 s.2.1 v = (nh s.1 v.2.1, (gp s.2.1 v.2.1).1, !(gp s.2.1 v.2.1).2.1, ()) := by unfold sh; rw [if_pos hc]
    obtain ⟨h2, ho, hb⟩ := hc
    rw [hs] at ho hb
    rw [bk_pn f] at hb
    rw [ok_pn f] at ho
    rw [ho] at hb
    simp only [Bool.true_and, Bool.or_eq_false_iff] at hb
    have hfr : frP h vs v.2.1 = false := by simp [frP, hb.1]
    have hC : frC h (vs ++ [v]) = frC h vs + 1 := by
      unfold frC
      rw [← countP_one hfr (lst_sorted h) ((mem_lst f).2 ho)]
      refine List.countP_congr fun x hx => ?_
      have : frP h (vs ++ [v]) x = (frP h vs x || v.2.1 == x) := by
        unfold frP
        rw [named_snoc]
        by_cases e : v.2.1 = x
        · subst e; simp [one, h2, hb.2]
        · have e1 : (v.2.1 == x) = false := by rw [ibeq]; exact decide_eq_false e
          simp [one, e1]
      rw [this]
    have ha := (fndB_rng (og_ok ho).1).1
    have hfrn : ∀ x, frP h (vs ++ [v]) x = true → frP h vs x = true ∨ x = v.2.1 := by
      intro x hx
      unfold frP at hx ⊢
      rw [named_snoc] at hx
      by_cases e : v.2.1 = x
      · exact .inr e.symm
      · have e1 : (v.2.1 == x) = false := by rw [ibeq]; exact decide_eq_false e
        simp only [one, e1, Bool.and_false, Bool.or_false] at hx
        exact .inl hx
    by_cases hfull : g.1.toNat - g.2.1.length ≤ frC h vs
    · have hgp : gp s.2.1 v.2.1 = (s.2.1, false, ()) := by
        unfold gp
        rw [if_pos]
        right
        rw [p.room, p.len]
        omega
      have e' : as1 s v = (nh s.1 v.2.1, s.2.1, true, ()) := by
        unfold as1; rw [e, hgp]; simp
      rw [e']
      refine ⟨p.room, ?_, ?_, fun h => by cases h⟩
      · show s.2.1.2.1.length = _
        rw [p.len, hC]; omega
      · show true = _
        rw [hC]; symm; exact decide_eq_true (by omega)
    · have hgp : gp s.2.1 v.2.1 = ((s.2.1.1, s.2.1.2.1 ++ [v.2.1], ()), true, ()) := by
        unfold gp
        rw [if_neg]
        rw [p.room, p.len]
        omega
      have e' : as1 s v = (nh s.1 v.2.1, (s.2.1.1, s.2.1.2.1 ++ [v.2.1], ()), s.2.2.1, ()) := by
        unfold as1; rw [e, hgp]; simp
      rw [e']
      refine ⟨p.room, ?_, ?_, fun hov x hx hf => ?_⟩
      · show (s.2.1.2.1 ++ [v.2.1]).length = _
        rw [List.length_append, List.length_singleton, p.len, hC]; omega
      · show s.2.2.1 = _
        rw [p.over, hC]
        rw [decide_eq_false (by omega), decide_eq_false (by omega)]
      · show x ∈ s.2.1.2.1 ++ [v.2.1]
        rw [List.mem_append]
        rcases hfrn x hf with h1 | h1
        · exact .inl (p.mem hov x hx h1)
        · right; rw [h1]; exact List.mem_singleton.2 rfl
  · have e' : as1 s v = s := by
      have : sh s.1 s.2.1 v = (s.1, s.2.1, false, ()) := by unfold sh; rw [if_neg hc]
      unfold as1; rw [this]; simp
    rw [e']
    have hP : ∀ x, okA h x = true → frP h (vs ++ [v]) x = frP h vs x := by
      intro x hx
      unfold frP
      rw [named_snoc]
      cases hb : bk h x
      rotate_left
      · rfl
      · by_cases ho : one v x = true
        · have h1 : v.1 = 2 ∧ v.2.1 = x := by simpa [one] using ho
          obtain ⟨h1, rfl⟩ := h1
          cases hn : named vs v.2.1
          · exfalso
            apply hc
            refine ⟨h1, ?_, ?_⟩
            · rw [hs, ok_pn f]; exact hx
            · rw [hs, bk_pn f, hn, hb]; simp
          · rfl
        · simp only [Bool.not_eq_true] at ho
          rw [ho, Bool.or_false]
    have hC : frC h (vs ++ [v]) = frC h vs := by
      unfold frC
      refine List.countP_congr fun x hx => ?_
      rw [hP x ((mem_lst f).1 hx)]
    refine ⟨p.room, by rw [hC]; exact p.len, by rw [hC]; exact p.over, fun hov x hx hf => ?_⟩
    rw [hP x hx] at hf
    exact p.mem hov x hx hf
theorem shP_all {h : Heap} (f : FormP h) {g : Grey} (gg : GreyP g) (vs : List Val) : ∀ n, n ≤ vs.length → ShP h g (vs.take n) ((vs.take n).foldl as1 (h, g, false, ())) := by
  intro n
  induction n with
  | zero =>
    intro _
    have : frC h (List.take 0 vs) = 0 := by
      unfold frC
      rw [List.countP_eq_zero]
      intro a _
      simp [frP, named]
    refine ⟨rfl, ?_, ?_, fun _ p _ hp => ?_⟩
    · rw [this]; simp
    · rw [this]; simp
    · simp [frP, named] at hp
  | succ n ih =>
    intro hn
    have hn : n < vs.length := hn
    have := shP_snoc f gg (fold_heap (vs.take n) (h, g, false, ()) f) (ih (by omega)) vs[n]
    rw [List.take_append_getElem hn] at this
    rw [fold_take _ _ _ hn]
    exact this
theorem shP_al {h : Heap} (f : FormP h) {g : Grey} (gg : GreyP g) (vs : List Val) : ShP h g vs (al h g vs) := by
  have := shP_all f gg vs vs.length (Nat.le_refl _)
  rw [List.take_length] at this
  exact this

/-! Fields stay. -/
theorem no_object {h : Heap} (f : FormP h) (ha : apB h = true) {a : Int} (ho : (og h a).2.1 = true) {j : Int} (h0 : 0 ≤ j) (hj : j < cnt h a) : okA h (a + 1 + j) = false := by
  cases hb : okA h (a + 1 + j)
  · rfl
  exfalso
  unfold okA at hb
  have hr := og_rng f ho
  obtain ⟨a1, a2, a3, a4⟩ := og_ok ho
  obtain ⟨b1, -, -, -⟩ := og_ok hb
  have hc := apart_of f ha ho
  unfold cnt at hj
  have hsp : spanOf h (a + 1 + j) = spanOf h a := by
    unfold spanOf
    rw [show (a + 1 + j) / 32 = a / 32 by omega]
  simp only [fndB, decide_eq_true_eq] at a1 b1
  rw [hsp] at b1
  rw [a4] at hc hj hr
  simp only [hd] at hc hj hr
  simp only [hok, Bool.and_eq_true, decide_eq_true_eq] at a2
  rw [hc] at a2
  have hcl := f.spanAt (a := a) (by omega) (by omega) a1.2.2.1
  have hw : h.1.getD a.toNat 0 % 16 < cw (spanOf h a).2.1 := by
    have e := a2.2
    generalize (spanOf h a).2.1 = c at *
    obtain rfl | rfl | rfl | rfl : c = 0 ∨ c = 1 ∨ c = 2 ∨ c = 3 := by omega
    all_goals exact e
  have m1 := a1.2.2.2
  have m2 := b1.2.2.2
  have h4 := class4 hcl.1 hcl.2
  generalize cw (spanOf h a).2.1 = w at *
  generalize cb (spanOf h a).2.1 = b at *
  generalize h.1.getD a.toNat 0 % 16 = c at *
  clear a1 b1 a2 hc
  rcases h4 with ⟨rfl, rfl⟩ | ⟨rfl, rfl⟩ | ⟨rfl, rfl⟩ | ⟨rfl, rfl⟩ <;> omega
theorem cnt_pn {h : Heap} (f : FormP h) (S : Int → Bool) {a : Int} (ho : (og h a).2.1 = true) : cnt (pn h S) a = cnt h a := by
  unfold cnt
  rw [og_pn f, if_pos ho]
theorem rfN_pn {h : Heap} (f : FormP h) (ha : apB h = true) (S : Int → Bool) {a : Int} (ho : (og h a).2.1 = true) : ∀ n : Nat, (n : Int) ≤ cnt h a → rfN (pn h S) a n = rfN h a n
  | 0, _ => by simp [rfN]
  | n + 1, hn => by
    have hr := og_rng f ho
    have hl := f.len
    have hn' : (n : Int) < cnt h a := by omega
    have hw : (pn h S).1.getD (a + 1 + n).toNat 0 = h.1.getD (a + 1 + n).toNat 0 := by
      have hc : cnt h a = (og h a).1.2.2.2.1 := rfl
      have e : (((a + 1 + n).toNat : Nat) : Int) = a + 1 + n := by omega
      rw [pn_word _ _ _ (by omega), e]
      have := no_object f ha ho (by omega) hn'
      unfold okA at this
      rw [this]; simp
    rw [rfN_succ, rfN_succ, hw, rfN_pn f ha S ho n (by omega)]

theorem black_l0 (vs : List Val) (hv : vs.length ≤ 100) (o : Bool) (fr : Int) (l : List Int) (i : Nat) (hi : i < l.length) (h : Heap) (g : Grey) (a : Heap) (k : Grey) :
    flotsamlaw16_ShadeBlack_l0 (vs, o, fr, i, false, 0, h, g, a, k, l, ()) = some (.out (vs, o, fr, i, named vs l[i], h, g, a, k, l, ())) := by
  unfold flotsamlaw16_ShadeBlack_l0
  refine iterL_run vs.length (fun j => (vs, o, fr, (i : Int), named (vs.take j) l[i], (j : Int), h, g, a, k, l, ())) (fun j hj => ?_) ?_ (by omega) (by simp [named])
  · have hn : named (vs.take (j + 1)) l[i] = (named (vs.take j) l[i] || one vs[j] l[i]) := by
      rw [← List.take_append_getElem hj, named_snoc]
    simp only [flotsamlaw16_ShadeBlack_s0, flotsamlaw16_ShadeBlack_s0r, Bool.cond_decide, ibeq]
    rw [hn, if_pos (by omega), wi64_id (by omega) (by omega)]
    cases named (vs.take j) l[i]
    · rw [cond_false, if_pos (by omega), if_pos (by omega), Int.toNat_natCast, Int.toNat_natCast, get_d _ _ _ hj, get_d _ _ _ hi]
      unfold one
      rw [ibeq, ibeq]
      by_cases e : vs[j].1 = 2
      · rw [if_pos e, decide_eq_true e, if_pos (by omega), if_pos (by omega), if_pos (by omega), if_pos (by omega)]; rfl
      · rw [if_neg e, decide_eq_false e]; rfl
    · rw [cond_true]; rfl
  · simp only [flotsamlaw16_ShadeBlack_s0, flotsamlaw16_ShadeBlack_s0r, Bool.cond_decide]
    rw [if_neg (by omega), List.take_length]
theorem black_l1 {h : Heap} (f : FormP h) (hap : apB h = true) {g : Grey} (gg : GreyP g) {vs : List Val} (q : ValsP vs) :
    flotsamlaw16_ShadeBlack_l1 (vs, (al h g vs).2.2.1, 0, 0, h, g, (al h g vs).1, (al h g vs).2.1, lst h, ()) = some (.out ((al h g vs).2.2.1, (frC h vs : Nat), g, (al h g vs).2.1, ())) := by
  have hp := shP_al f gg vs
  have e1 : (al h g vs).1 = pn h (named vs) := fold_heap vs (h, g, false, ()) f
  have hll := lst_len f
  have hql := q.1
  have hkl : (al h g vs).2.1.2.1.length < 9223372036854775807 := by
    rw [hp.len]; have := gg.r16; have := gg.len; omega
  unfold flotsamlaw16_ShadeBlack_l1
  refine iterL_run (lst h).length (fun i => (vs, (al h g vs).2.2.1, ((((lst h).take i).countP (frP h vs) : Nat) : Int), (i : Int), h, g, (al h g vs).1, (al h g vs).2.1, lst h, ())) (fun i hi => ?_) ?_ (by omega) (by simp)
  · have ho := (mem_lst f).1 (List.getElem_mem hi)
    have hc : ((lst h).take (i + 1)).countP (frP h vs) = ((lst h).take i).countP (frP h vs) + (if frP h vs (lst h)[i] = true then 1 else 0) := by
      rw [← List.take_append_getElem hi, List.countP_append, List.countP_singleton]
    have hcl : ((lst h).take i).countP (frP h vs) ≤ i := by
      refine Nat.le_trans List.countP_le_length ?_
      rw [List.length_take]; omega
    have hmem : (al h g vs).2.2.1 = false → frP h vs (lst h)[i] = true → (lst h)[i] ∈ (al h g vs).2.1.2.1 := fun hov hf => hp.mem hov (lst h)[i] ho hf
    have hrefs : flotsamref08_Refs (h, (lst h)[i], ()) = some (rfN h (lst h)[i] (cnt h (lst h)[i]).toNat, ()) := refs8_eq f ho
    have hcn : 0 ≤ cnt h (lst h)[i] ∧ cnt h (lst h)[i] ≤ 15 := ⟨(og_rng f ho).2.2.1, (og_rng f ho).2.2.2.2⟩
    have hrefs' : flotsamref08_Refs ((al h g vs).1, (lst h)[i], ()) = some (rfN h (lst h)[i] (cnt h (lst h)[i]).toNat, ()) := by
      rw [e1, refs8_eq (f.pn _) (by rw [ok_pn f]; exact ho), cnt_pn f _ ho, rfN_pn f hap _ ho _ (by omega)]
    have hints : flotsamref08_Ints (rfN h (lst h)[i] (cnt h (lst h)[i]).toNat, rfN h (lst h)[i] (cnt h (lst h)[i]).toNat, ()) = some (true, ()) := by
      have := rfN_len h (lst h)[i] (cnt h (lst h)[i]).toNat
      rw [ints_eq _ _ (by omega)]; simp
    have hb1 : flotsamref08_Black (h, (lst h)[i], ()) = some (bk h (lst h)[i], ()) := black8_eq f _
    have hb2 : flotsamref08_Black ((al h g vs).1, (lst h)[i], ()) = some (named vs (lst h)[i] || bk h (lst h)[i], ()) := by
      rw [e1, black8_eq (f.pn _), bk_pn f]
      unfold okA at ho
      rw [ho]; rfl
    have hin := in8_eq (al h g vs).2.1.2.1 (lst h)[i] hkl
    rw [hc]
    have hfr : frP h vs (lst h)[i] = (!bk h (lst h)[i] && named vs (lst h)[i]) := rfl
    rw [hfr] at hmem ⊢
    simp only [flotsamlaw16_ShadeBlack_s1, flotsamlaw16_ShadeBlack_s1r, Bool.cond_decide]
    have i0 : (0 : Int) ≤ i := by omega
    have i1 : (i : Int) < (lst h).length := by omega
    rw [if_pos i1, black_l0 vs q.1 _ _ _ _ hi]
    simp only [Option.bind_some, i0, i1, if_true, Int.toNat_natCast, get_d _ _ _ hi, hb1, hb2, hrefs, hrefs', hints, hin]
    rw [wi64_id (n := (i : Int) + 1) (by omega) (by omega), wi64_id (n := ((((lst h).take i).countP (frP h vs) : Nat) : Int) + 1) (by omega) (by omega)]
    generalize bk h (lst h)[i] = b at *
    generalize named vs (lst h)[i] = n at *
    generalize (al h g vs).2.2.1 = ov at *
    cases b
    · cases n
      · simp
      · simp only [Bool.not_false, Bool.true_and, Bool.true_or, Bool.or_false, beq_self_eq_true, Bool.not_true, cond_false, cond_true, if_true]
        cases ov
        · have := hmem rfl (by simp)
          rw [decide_eq_true this]; rfl
        · cases decide ((lst h)[i] ∈ (al h g vs).2.1.2.1) <;> rfl
    · cases n <;> simp
  · simp only [flotsamlaw16_ShadeBlack_s1, flotsamlaw16_ShadeBlack_s1r, Bool.cond_decide]
    rw [if_neg (by omega), List.take_length]; rfl
theorem shadeBlack_pure : ∀ x, Good (.cons cHeap (.cons cGrey (.cons (.sl cVal) .nil))) x → flotsamlaw16_ShadeBlack x = some (true, ()) := by
  rintro ⟨(h : Heap), (g : Grey), (vs : List Val), ⟨⟩⟩ ⟨gh, gg, gv, -⟩
  have gh : Good cHeap h := gh
  have sg : ∀ w : Val, w ∈ vs → (-9223372036854775808 : Int) ≤ w.2.1 ∧ w.2.1 ≤ 9223372036854775807 := fun w hw => (gv.2 w hw).2.1
  simp only [flotsamlaw16_ShadeBlack, flotsamlaw16_ShadeBlack_r, awake16, form_eq gh, greyRight_eq, Option.bind_some, Bool.not_true, cond_false, condn, Bool.cond_decide, ibeq]
  cases hf : formB h with
  | false => rfl
  | true =>
    have f := form_of gh hf
    simp only [cond_true, apart_eq f, Option.bind_some]
    cases ha : apB h with
    | false => rfl
    | true =>
    cases hg : grB g with
    | false => rfl
    | true =>
      obtain ⟨p, p0⟩ := grey_of hg
      simp only [cond_true]
      by_cases hl : (vs.length : Int) > 100
      · rw [if_pos hl]
      rw [if_neg hl]
      have q : ValsP vs := ⟨by omega, fun w hw => by have := sg w hw; omega⟩
      have hp := shP_al f p vs
      have r0 := p.r0
      have r16 := p.r16
      have rl := p.len
      obtain ⟨fa, pa⟩ := al_ok vs (h, g, false, ()) f p
      change FormP (al h g vs).1 at fa
      have e1 : (al h g vs).1 = pn h (named vs) := fold_heap vs (h, g, false, ()) f
      have hlst : lst (al h g vs).1 = lst h := by
        have : (al h g vs).1.1.length = h.1.length := by rw [e1, pn_len]
        unfold lst lstN
        rw [this]
        refine List.filter_congr fun x _ => ?_
        unfold okA
        rw [e1, ok_pn f]
      have hll := lst_len f
      have hC : frC h vs ≤ 512 := Nat.le_trans List.countP_le_length hll
      simp only [all_eq f p q, list_eq f, list_eq fa, hlst, ints_eq _ _ (show (lst h).length < 9223372036854775807 by omega), black_l1 f ha p q, Option.bind_some, decide_true, cond_true]
      rw [hp.room, hp.over, hp.len]
      rw [wi64_id (n := g.1 - (g.2.1.length : Int)) (by omega) (by omega)]
      have d1 : decide (g.1.toNat - g.2.1.length < frC h vs) = decide ((frC h vs : Int) > g.1 - (g.2.1.length : Int)) := by
        rw [decide_eq_decide]; omega
      rw [d1]
      have d2 : (g.2.1.length + min (frC h vs) (g.1.toNat - g.2.1.length) : Nat) = wi64 ((g.2.1.length : Int) + (if g.1 - (g.2.1.length : Int) < (frC h vs : Int) then g.1 - (g.2.1.length : Int) else (frC h vs : Int))) := by
        split
        · rw [wi64_id (by omega) (by omega)]; omega
        · rw [wi64_id (by omega) (by omega)]; omega
      rw [if_pos d2]
      simp
end Go.Proofs.YtdfhopakojmjkaaDoor.Den
