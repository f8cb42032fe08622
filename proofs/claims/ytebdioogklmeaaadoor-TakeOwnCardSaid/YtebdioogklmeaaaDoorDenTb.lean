/- Pure laws: the page that is found. -/
import Derived.Test.YtebdioogklmeaaaDoorDenTa
namespace Go.Proofs.YtebdioogklmeaaaDoor.Den
open Go
set_option linter.unusedVariables false
set_option linter.unusedSimpArgs false
set_option maxRecDepth 100000

def openB (s : Span) : Bool := decide (s.1 = 1 ∧ s.2.2.1 ≠ 0)
theorem takeOpen_eq (s : Span) : take_open (s, ()) = some (openB s, ()) := by
  simp only [take_open, take_open_r, span_Full, span_Full_r, span_inUse_eq, Bool.cond_decide, ibeq, Option.bind_some, openB]
  by_cases h : s.1 = 1
  · rw [if_pos h, if_pos (.inl h)]
    simp [h]
  · rw [if_neg h]
    simp [h]
theorem pcn_pos {m : Nat} (h0 : m ≠ 0) (hm : m < 4294967296) : pcn 32 m ≠ 0 := by
  obtain ⟨i, q, e⟩ := low_split (show 0 < m by omega)
  have hi : i < 32 := by
    apply Nat.lt_of_not_ge
    intro hge
    have h1 : 2 ^ 32 ≤ 2 ^ i := Nat.pow_le_pow_right (by decide) hge
    have h2 : 2 ^ i ≤ m := by rw [e]; exact Nat.le_mul_of_pos_right _ (by omega)
    have h3 : (4294967296 : Nat) ≤ m := Nat.le_trans h1 h2
    omega
  have hb : bit (m : Int) i = true := by rw [bit_low e i]; simp
  have := ((pcn_xr m i 32).2 hi).1 hb
  omega
theorem open11_eq {s : Span} (h0 : 0 ≤ s.2.2.1) (h1 : s.2.2.1 < 65536) : flotsamref11_open (s, ()) = some (openB s, ()) := by
  simp only [flotsamref11_open, flotsamref11_open_r, count6_eq h0 h1, Bool.cond_decide, ibeq, Option.bind_some, openB]
  by_cases h : s.1 = 1
  · rw [if_pos h]
    obtain ⟨m, hm⟩ := Int.eq_ofNat_of_zero_le h0
    have hz : pcn 32 m = 0 ↔ m = 0 := ⟨fun e => by
      by_cases hm0 : m = 0
      · exact hm0
      · exact absurd e (pcn_pos hm0 (by omega)), fun e => by rw [e]; exact pcn_zero 32⟩
    rw [hm, Int.toNat_natCast]
    generalize pcn 32 m = z at hz
    have : decide ((z : Int) > 0) = decide (s.1 = 1 ∧ (m : Int) ≠ 0) := decide_eq_decide.2 ⟨fun a => ⟨h, by omega⟩, fun a => by have := a.2; omega⟩
    rw [this]
  · rw [if_neg h]
    simp [h]

/-- The first number below n of which something holds. -/
def fst1 (n : Nat) (P : Nat → Bool) : Option Nat := (List.range n).find? P
theorem fst1_none {n : Nat} {P : Nat → Bool} : fst1 n P = none ↔ ∀ i, i < n → P i = false := by
  unfold fst1
  rw [List.find?_eq_none]
  simp
theorem fst1_some {n : Nat} {P : Nat → Bool} {i : Nat} (hi : i < n) (h : P i = true) (hl : ∀ j, j < i → P j = false) : fst1 n P = some i := by
  unfold fst1
  rw [List.find?_range_eq_some]
  exact ⟨by simpa using h, by simpa using hi, fun j hj => by simp [hl j hj]⟩
theorem fst1_of {n : Nat} {P : Nat → Bool} {i : Nat} (h : fst1 n P = some i) : i < n ∧ P i = true ∧ ∀ j, j < i → P j = false := by
  unfold fst1 at h
  rw [List.find?_range_eq_some] at h
  obtain ⟨h1, h2, h3⟩ := h
  exact ⟨by simpa using h2, by simpa using h1, fun j hj => by simpa using h3 j hj⟩

def isP (h : Heap) (c : List (List Int)) (k : Int) (i : Nat) : Bool := openB (h.2.1.getD i sz) && decide ((h.2.1.getD i sz).2.1 = k) && !decide (keptP c i)
def isQ (h : Heap) (i : Nat) : Bool := decide ((h.2.1.getD i sz).1 = 0)
def pageR (h : Heap) (c : List (List Int)) (k : Int) : Int × Bool × Unit := match fst1 h.2.1.length (isP h c k) with
  | some i => ((i : Int), true, ())
  | none => match fst1 h.2.1.length (isQ h) with
    | some i => ((i : Int), true, ())
    | none => (0, false, ())
/-- The page that is found. -/
def pageF (h : Heap) (c : List (List Int)) (m k : Nat) : Int × Bool × Unit :=
  if ent c m k ≠ -1 ∧ openB (spanAt h (ent c m k)) = true then (ent c m k, true, ()) else pageR h c k

/-! The reference. -/
theorem page11_l0 {h : Heap} (q : HP h) {c : List (List Int)} (h4 : C4 c) (hl : c.length ≤ 1000) (k : Int) :
    ∃ e, flotsamref11_Page_l0 (c, k, 0, h, ()) = some e ∧ ((e = .out (h, ()) ∧ fst1 h.2.1.length (isP h c k) = none) ∨ (∃ i, fst1 h.2.1.length (isP h c k) = some i ∧ e = .ret ((i : Int), true, ()))) := by
  have hn := q.f.n16
  unfold flotsamref11_Page_l0
  refine iterL_rule (fun n x => ∃ i : Nat, i ≤ h.2.1.length ∧ n = h.2.1.length - i ∧ x = (c, k, (i : Int), h, ()) ∧ ∀ j, j < i → isP h c k j = false) ?_ _ h.2.1.length _ (by omega) ⟨0, by omega, by omega, rfl, fun j h => by omega⟩
  rintro n x ⟨i, hi, rfl, rfl, hf⟩
  simp only [flotsamref11_Page_s0, flotsamref11_Page_s0r, Bool.cond_decide, ibeq, Int.toNat_natCast]
  simp only [show ((0 : Int), (0 : Int), (0 : Int), ()) = sz from rfl]
  by_cases hlt : i < h.2.1.length
  · rw [if_pos (by omega), if_pos (by omega), if_pos (by omega)]
    have hm : h.2.1.getD i sz ∈ h.2.1 := by rw [get_d _ _ _ hlt]; exact List.getElem_mem hlt
    have h0 := q.fr _ hm
    have h1 := rightB_free (q.f.right _ hm) h0
    have nx : isP h c k i = false → ∀ j, j < i + 1 → isP h c k j = false := fun e j hj => by
      rcases Nat.lt_succ_iff_lt_or_eq.1 hj with h1 | rfl
      · exact hf j h1
      · exact e
    have go : isP h c k i = false → (∃ m y, m < h.2.1.length - i ∧ (some (SRes.next (c, k, wi64 ((i : Int) + 1), h, ())) : Option (SRes (.cons (.sl (.arr 4 cI)) (.cons cI (.cons cI (.cons cHeap .nil)))) (.cons cHeap .nil) (.cons cI (.cons .bool .nil)))) = some (.next y) ∧ ∃ i', i' ≤ h.2.1.length ∧ m = h.2.1.length - i' ∧ y = (c, k, (i' : Int), h, ()) ∧ ∀ j, j < i' → isP h c k j = false) := fun e =>
      ⟨h.2.1.length - (i + 1), _, by omega, by rw [wi64_id (by omega) (by omega)]; rfl, i + 1, by omega, rfl, rfl, nx e⟩
    by_cases e1 : (h.2.1.getD i sz).2.1 = k
    · rw [if_pos e1, if_pos (by omega), if_pos (by omega), open11_eq h0 h1, Option.bind_some]
      dsimp only
      cases e2 : openB (h.2.1.getD i sz) with
      | false => exact .inl (go (by unfold isP; rw [e2]; rfl))
      | true =>
        rw [cond_true, kept11_eq h4 hl, Option.bind_some]
        dsimp only
        by_cases e3 : keptP c (i : Int)
        · rw [decide_eq_true (show 0 ≤ (i : Int) ∧ keptP c (i : Int) from ⟨by omega, e3⟩), Bool.not_true, cond_false]
          exact .inl (go (by unfold isP; rw [decide_eq_true e3]; simp))
        · rw [decide_eq_false (show ¬ (0 ≤ (i : Int) ∧ keptP c (i : Int)) from fun h => e3 h.2), Bool.not_false, cond_true]
          have : isP h c k i = true := by
            unfold isP
            rw [e2, decide_eq_true e1, decide_eq_false e3]; rfl
          exact .inr ⟨_, rfl, .inr ⟨i, fst1_some hlt this hf, rfl⟩⟩
    · rw [if_neg e1]
      exact .inl (go (by
        unfold isP
        rw [decide_eq_false e1]
        simp))
  · rw [if_neg (by omega)]
    exact .inr ⟨_, rfl, .inl ⟨rfl, fst1_none.2 (fun j hj => hf j (by omega))⟩⟩
theorem page11_l1 {h : Heap} (q : HP h) :
    ∃ e, flotsamref11_Page_l1 (0, h, ()) = some e ∧ ((e = .out () ∧ fst1 h.2.1.length (isQ h) = none) ∨ (∃ i, fst1 h.2.1.length (isQ h) = some i ∧ e = .ret ((i : Int), true, ()))) := by
  have hn := q.f.n16
  unfold flotsamref11_Page_l1
  refine iterL_rule (fun n x => ∃ i : Nat, i ≤ h.2.1.length ∧ n = h.2.1.length - i ∧ x = ((i : Int), h, ()) ∧ ∀ j, j < i → isQ h j = false) ?_ _ h.2.1.length _ (by omega) ⟨0, by omega, by omega, rfl, fun j h => by omega⟩
  rintro n x ⟨i, hi, rfl, rfl, hf⟩
  simp only [flotsamref11_Page_s1, flotsamref11_Page_s1r, Bool.cond_decide, ibeq, Int.toNat_natCast]
  simp only [show ((0 : Int), (0 : Int), (0 : Int), ()) = sz from rfl]
  by_cases hlt : i < h.2.1.length
  · rw [if_pos (by omega), if_pos (by omega), if_pos (by omega)]
    by_cases e1 : (h.2.1.getD i sz).1 = 0
    · rw [if_pos e1]
      exact .inr ⟨_, rfl, .inr ⟨i, fst1_some hlt (decide_eq_true e1) hf, rfl⟩⟩
    · rw [if_neg e1, wi64_id (by omega) (by omega)]
      refine .inl ⟨h.2.1.length - (i + 1), _, by omega, rfl, i + 1, by omega, rfl, rfl, fun j hj => ?_⟩
      rcases Nat.lt_succ_iff_lt_or_eq.1 hj with h1 | rfl
      · exact hf j h1
      · exact decide_eq_false e1
  · rw [if_neg (by omega)]
    exact .inr ⟨_, rfl, .inl ⟨rfl, fst1_none.2 (fun j hj => hf j (by omega))⟩⟩
theorem page11_rest {h : Heap} (q : HP h) {c : List (List Int)} (h4 : C4 c) (hl : c.length ≤ 1000) (k : Int) :
    ((flotsamref11_Page_l0 (c, k, 0, h, ())).bind fun s4 => match s4 with
      | .out s4 => (flotsamref11_Page_l1 (0, s4.1, ())).bind fun s5 => match s5 with
        | .out s5 => some ((0 : Int), false, ())
        | .ret s5 => some (s5.1, s5.2.1, ())
      | .ret s4 => some (s4.1, s4.2.1, ())) = some (pageR h c k) := by
  obtain ⟨e, e1, e2⟩ := page11_l0 q h4 hl k
  rw [e1, Option.bind_some]
  unfold pageR
  rcases e2 with ⟨rfl, e2⟩ | ⟨i, e2, rfl⟩
  · dsimp only
    obtain ⟨e, g1, g2⟩ := page11_l1 q
    rw [g1, Option.bind_some, e2]
    rcases g2 with ⟨rfl, g2⟩ | ⟨i, g2, rfl⟩ <;> rw [g2]
  · rw [e2]
theorem ent_rng {h : Heap} {c : List (List Int)} (r : RightP h c) {m k : Nat} (hm : m < c.length) (hk : k < 4) : ent c m k = -1 ∨ valid h (ent c m k) k := by
  have := r.v (4 * m + k) (by omega)
  rw [lin_at c m k hk, show (4 * m + k) % 4 = k by omega] at this
  exact this
theorem page11_eq {h : Heap} (q : HP h) {c : List (List Int)} (h4 : C4 c) (hl : c.length ≤ 1000) (r : RightP h c) {m k : Nat} (hm : m < c.length) (hk : k < 4) :
    flotsamref11_Page (h, c, (m : Int), (k : Int), ()) = some (pageF h c m k) := by
  simp only [flotsamref11_Page, flotsamref11_Page_r, Bool.cond_decide, Int.toNat_natCast]
  have ev : (c.getD m (List.replicate 4 0)).getD k 0 = ent c m k := rfl
  simp only [show ((0 : Int), (0 : Int), (0 : Int), ()) = sz from rfl, ev]
  have es : h.2.1.getD (ent c m k).toNat sz = spanAt h (ent c m k) := rfl
  simp only [es]
  rw [if_pos (by omega), if_pos (by omega), if_pos (by omega), if_pos (by omega)]
  unfold pageF
  rcases ent_rng r hm hk with e | hv
  · rw [if_neg (by omega), if_neg (fun h => h.1 e)]
    exact page11_rest q h4 hl k
  · have i0 := hv.1.1
    have i1 := hv.1.2
    have hs := hv.1.mem
    have h0 := q.fr _ hs
    have h1 := rightB_free (q.f.right _ hs) h0
    rw [if_pos (by omega), if_pos (by omega), if_pos (by omega), if_pos (by omega), if_pos (by omega), if_pos (by omega), if_pos (by omega), open11_eq h0 h1, Option.bind_some]
    dsimp only
    cases ho : openB (spanAt h (ent c m k)) with
    | true =>
      rw [cond_true, if_pos (by omega), if_pos (by omega), if_pos (by omega), if_pos (by omega), if_pos ⟨by omega, rfl⟩]
    | false =>
      rw [cond_false, if_neg (fun h => by cases h.2)]
      exact page11_rest q h4 hl k

/-! The program: a queue of rising numbers. -/
theorem up_l2 (c0 : Heap) (c16 : List (List Int)) (c32 : Int) (r : List Int) (v : Int) (hr : ∀ x ∈ r, x < v) (hl : r.length ≤ 1000) :
    take_Page_l2 ((r.length : Int), c0, c16, c32, (), r ++ [v], ()) = some (.out (c0, c16, c32, (), r ++ [v], ())) := by
  unfold take_Page_l2
  refine iterL_run 0 (fun _ => ((r.length : Int), c0, c16, c32, (), r ++ [v], ())) (fun i hi => by omega) ?_ (by omega) rfl
  simp only [take_Page_s2, take_Page_s2r, Bool.cond_decide, ibeq, Int.toNat_natCast]
  rw [wi64_id (n := (r.length : Int) - 1) (by omega) (by omega)]
  by_cases h : r.length = 0
  · rw [h]
    rfl
  · have hq : ((r.length : Int) - 1).tdiv 2 = (((r.length - 1) / 2 : Nat) : Int) := by
      rw [Int.tdiv_eq_ediv_of_nonneg (by omega)]
      omega
    have hlt : (r.length - 1) / 2 < r.length := by omega
    simp only [hq]
    rw [wi64_id (by omega) (by omega), if_neg (by omega)]
    have e1 : (r ++ [v]).getD r.length 0 = v := by simp [List.getD_eq_getElem?_getD]
    have e2 : (r ++ [v]).getD ((r.length - 1) / 2) 0 = r[(r.length - 1) / 2] := by
      rw [get_d _ _ _ (by rw [List.length_append]; omega), List.getElem_append_left hlt]
    simp only [Int.toNat_natCast, e1, e2, List.length_append, List.length_singleton]
    have := hr _ (List.getElem_mem hlt)
    rw [if_pos (by omega), if_pos (by omega), if_pos (by omega), if_pos (by omega)]
    rw [decide_eq_false (by omega), Bool.not_false, cond_true]
theorem up_l6 (r : List Int) (v : Int) (hr : ∀ x ∈ r, x < v) (hl : r.length ≤ 1000) :
    take_Page_l6 ((r.length : Int), (), r ++ [v], ()) = some (.out ((), r ++ [v], ())) := by
  unfold take_Page_l6
  refine iterL_run 0 (fun _ => ((r.length : Int), (), r ++ [v], ())) (fun i hi => by omega) ?_ (by omega) rfl
  simp only [take_Page_s6, take_Page_s6r, Bool.cond_decide, ibeq, Int.toNat_natCast]
  rw [wi64_id (n := (r.length : Int) - 1) (by omega) (by omega)]
  by_cases h : r.length = 0
  · rw [h]
    rfl
  · have hq : ((r.length : Int) - 1).tdiv 2 = (((r.length - 1) / 2 : Nat) : Int) := by
      rw [Int.tdiv_eq_ediv_of_nonneg (by omega)]
      omega
    have hlt : (r.length - 1) / 2 < r.length := by omega
    simp only [hq]
    rw [wi64_id (by omega) (by omega), if_neg (by omega)]
    have e1 : (r ++ [v]).getD r.length 0 = v := by simp [List.getD_eq_getElem?_getD]
    have e2 : (r ++ [v]).getD ((r.length - 1) / 2) 0 = r[(r.length - 1) / 2] := by
      rw [get_d _ _ _ (by rw [List.length_append]; omega), List.getElem_append_left hlt]
    simp only [Int.toNat_natCast, e1, e2, List.length_append, List.length_singleton]
    have := hr _ (List.getElem_mem hlt)
    rw [if_pos (by omega), if_pos (by omega), if_pos (by omega), if_pos (by omega)]
    rw [decide_eq_false (by omega), Bool.not_false, cond_true]
theorem init_l1 (a0 : Heap) (c : List (List Int)) (k : Int) (a1 : Heap) : take_Page_l1 (0, -1, a0, c, k, a1, [], ()) = some (.out (a0, c, k, a1, [], ())) := by
  unfold take_Page_l1
  refine iterL_run 0 (fun _ => (0, -1, a0, c, k, a1, [], ())) (fun i hi => by omega) ?_ (by omega) rfl
  simp only [take_Page_s1, take_Page_s1r, Bool.cond_decide]
  rw [if_neg (by omega)]
theorem init_l5 (a0 : Heap) : take_Page_l5 (0, -1, a0, [], ()) = some (.out (a0, [], ())) := by
  unfold take_Page_l5
  refine iterL_run 0 (fun _ => (0, -1, a0, [], ())) (fun i hi => by omega) ?_ (by omega) rfl
  simp only [take_Page_s5, take_Page_s5r, Bool.cond_decide]
  rw [if_neg (by omega)]
/-- The queue behind so many numbers: those of which P holds, rising. -/
structure QueP (P : Nat → Bool) (n : Nat) (r : List Int) : Prop where
  lt : ∀ x ∈ r, x < n
  len : r.length ≤ n
  nil : r = [] → ∀ j, j < n → P j = false
  hd : r ≠ [] → ∃ i : Nat, i < n ∧ P i = true ∧ (∀ j, j < i → P j = false) ∧ r.getD 0 0 = (i : Int)
theorem QueP.zero (P : Nat → Bool) : QueP P 0 [] := ⟨fun x h => (by cases h), (by simp), fun _ j h => (by omega), fun h => absurd rfl h⟩
theorem QueP.skip {P : Nat → Bool} {n : Nat} {r : List Int} (q : QueP P n r) (h : P n = false) : QueP P (n + 1) r := by
  refine ⟨fun x hx => by have := q.lt x hx; omega, by have := q.len; omega, fun e j hj => ?_, fun e => ?_⟩
  · rcases Nat.lt_succ_iff_lt_or_eq.1 hj with h1 | rfl
    · exact q.nil e j h1
    · exact h
  · obtain ⟨i, a, b, c, d⟩ := q.hd e
    exact ⟨i, by omega, b, c, d⟩
theorem QueP.push {P : Nat → Bool} {n : Nat} {r : List Int} (q : QueP P n r) (h : P n = true) : QueP P (n + 1) (r ++ [(n : Int)]) := by
  refine ⟨fun x hx => ?_, by rw [List.length_append]; have := q.len; simp; omega, fun e => by simp at e, fun _ => ?_⟩
  · rcases List.mem_append.1 hx with hx | hx
    · have := q.lt x hx; omega
    · rw [List.mem_singleton] at hx; omega
  · by_cases e : r = []
    · subst e
      exact ⟨n, by omega, h, q.nil rfl, rfl⟩
    · obtain ⟨i, a, b, c, d⟩ := q.hd e
      refine ⟨i, by omega, b, c, ?_⟩
      rw [← d]
      cases r with
      | nil => exact absurd rfl e
      | cons x r => rfl
theorem takePage_l3 {h : Heap} (hn : h.2.1.length ≤ 16) {c : List (List Int)} (h4 : C4 c) (hl : c.length ≤ 1000) (k : Int) :
    ∃ r, take_Page_l3 (h.2.1, (h.2.1.length : Int), 0, h, c, k, (), [], ()) = some (.out (h, (), r, ())) ∧ QueP (isP h c k) h.2.1.length r := by
  have hr : ∃ e, take_Page_l3 (h.2.1, (h.2.1.length : Int), 0, h, c, k, (), [], ()) = some e ∧ ∃ r, e = .out (h, (), r, ()) ∧ QueP (isP h c k) h.2.1.length r := by
    unfold take_Page_l3
    refine iterL_rule (fun n x => ∃ (i : Nat) (r : List Int), i ≤ h.2.1.length ∧ n = h.2.1.length - i ∧ x = (h.2.1, (h.2.1.length : Int), (i : Int), h, c, k, (), r, ()) ∧ QueP (isP h c k) i r) ?_ _ h.2.1.length _ (by omega) ⟨0, [], by omega, by omega, rfl, QueP.zero _⟩
    rintro n x ⟨i, r, hi, rfl, rfl, q⟩
    simp only [take_Page_s3, take_Page_s3r, Bool.cond_decide, ibeq, Int.toNat_natCast]
    simp only [show ((0 : Int), (0 : Int), (0 : Int), ()) = sz from rfl]
    by_cases hlt : i < h.2.1.length
    · rw [if_pos (by omega), if_pos (by omega), if_pos (by omega), takeOpen_eq, Option.bind_some]
      dsimp only
      have sk : isP h c k i = false → (∃ m y, m < h.2.1.length - i ∧ (some (SRes.next (h.2.1, (h.2.1.length : Int), wi64 ((i : Int) + 1), h, c, k, (), r, ())) : Option (SRes (.cons (.sl cSpan) (.cons cI (.cons cI (.cons cHeap (.cons (.sl (.arr 4 cI)) (.cons cI (.cons .nil (.cons (.sl cI) .nil)))))))) (.cons cHeap (.cons .nil (.cons (.sl cI) .nil))) .nil)) = some (.next y) ∧
          ∃ (i' : Nat) (r' : List Int), i' ≤ h.2.1.length ∧ m = h.2.1.length - i' ∧ y = (h.2.1, (h.2.1.length : Int), (i' : Int), h, c, k, (), r', ()) ∧ QueP (isP h c k) i' r') := fun e =>
        ⟨h.2.1.length - (i + 1), _, by omega, by rw [wi64_id (by omega) (by omega)]; rfl, i + 1, r, by omega, rfl, rfl, q.skip e⟩
      cases e1 : openB (h.2.1.getD i sz) with
      | false => exact .inl (sk (by unfold isP; rw [e1]; rfl))
      | true =>
        rw [cond_true]
        by_cases e2 : (h.2.1.getD i sz).2.1 = k
        · rw [if_pos e2, takeKept_eq h4 hl, Option.bind_some]
          dsimp only
          by_cases e3 : keptP c (i : Int)
          · rw [decide_eq_true (show 0 ≤ (i : Int) ∧ keptP c (i : Int) from ⟨by omega, e3⟩), Bool.not_true, cond_false]
            exact .inl (sk (by unfold isP; rw [decide_eq_true e3]; simp))
          · rw [decide_eq_false (show ¬ (0 ≤ (i : Int) ∧ keptP c (i : Int)) from fun h => e3 h.2), Bool.not_false, cond_true]
            have hp : isP h c k i = true := by
              unfold isP
              rw [e1, decide_eq_true e2, decide_eq_false e3]; rfl
            have hle := q.len
            rw [if_pos (by omega)]
            simp only [queue_row_Len, queue_row_Len_r, Option.bind_some, List.length_append, List.length_singleton]
            rw [show (((r.length + 1 : Nat) : Int) - 1) = (r.length : Int) by omega, wi64_id (by omega) (by omega), up_l2 _ _ _ _ _ (fun x hx => q.lt x hx) (by omega), Option.bind_some]
            dsimp only
            rw [wi64_id (by omega) (by omega)]
            exact .inl ⟨h.2.1.length - (i + 1), _, by omega, rfl, i + 1, _, by omega, rfl, rfl, q.push hp⟩
        · rw [if_neg e2]
          exact .inl (sk (by
            unfold isP
            rw [decide_eq_false e2]
            simp))
    · rw [if_neg (by omega)]
      obtain rfl : i = h.2.1.length := by omega
      exact .inr ⟨_, rfl, r, rfl, q⟩
  obtain ⟨e, e1, r, rfl, q⟩ := hr
  exact ⟨r, e1, q⟩
theorem takePage_l7 {h : Heap} (hn : h.2.1.length ≤ 16) :
    ∃ r, take_Page_l7 (h.2.1, (h.2.1.length : Int), 0, (), [], ()) = some (.out ((), r, ())) ∧ QueP (isQ h) h.2.1.length r := by
  have hr : ∃ e, take_Page_l7 (h.2.1, (h.2.1.length : Int), 0, (), [], ()) = some e ∧ ∃ r, e = .out ((), r, ()) ∧ QueP (isQ h) h.2.1.length r := by
    unfold take_Page_l7
    refine iterL_rule (fun n x => ∃ (i : Nat) (r : List Int), i ≤ h.2.1.length ∧ n = h.2.1.length - i ∧ x = (h.2.1, (h.2.1.length : Int), (i : Int), (), r, ()) ∧ QueP (isQ h) i r) ?_ _ h.2.1.length _ (by omega) ⟨0, [], by omega, by omega, rfl, QueP.zero _⟩
    rintro n x ⟨i, r, hi, rfl, rfl, q⟩
    simp only [take_Page_s7, take_Page_s7r, Bool.cond_decide, ibeq, Int.toNat_natCast]
    simp only [show ((0 : Int), (0 : Int), (0 : Int), ()) = sz from rfl]
    by_cases hlt : i < h.2.1.length
    · rw [if_pos (by omega), if_pos (by omega), if_pos (by omega)]
      simp only [take_Page_2, take_Page_2_r, Option.bind_some, ibeq, Bool.cond_decide]
      by_cases e1 : (h.2.1.getD i sz).1 = 0
      · rw [if_pos e1]
        have hle := q.len
        rw [if_pos (by omega)]
        simp only [queue_row_Len, queue_row_Len_r, Option.bind_some, List.length_append, List.length_singleton]
        rw [show (((r.length + 1 : Nat) : Int) - 1) = (r.length : Int) by omega, wi64_id (by omega) (by omega), up_l6 _ _ (fun x hx => q.lt x hx) (by omega), Option.bind_some]
        dsimp only
        rw [wi64_id (by omega) (by omega)]
        exact .inl ⟨h.2.1.length - (i + 1), _, by omega, rfl, i + 1, _, by omega, rfl, rfl, q.push (decide_eq_true e1)⟩
      · rw [if_neg e1, wi64_id (by omega) (by omega)]
        exact .inl ⟨h.2.1.length - (i + 1), _, by omega, rfl, i + 1, r, by omega, rfl, rfl, q.skip (decide_eq_false e1)⟩
    · rw [if_neg (by omega)]
      obtain rfl : i = h.2.1.length := by omega
      exact .inr ⟨_, rfl, r, rfl, q⟩
  obtain ⟨e, e1, r, rfl, q⟩ := hr
  exact ⟨r, e1, q⟩
theorem QueP.fst {P : Nat → Bool} {n : Nat} {r : List Int} (q : QueP P n r) : (r = [] ∧ fst1 n P = none) ∨ (r.length ≠ 0 ∧ ∃ i : Nat, fst1 n P = some i ∧ r.getD 0 0 = (i : Int)) := by
  by_cases e : r = []
  · exact .inl ⟨e, fst1_none.2 (q.nil e)⟩
  · obtain ⟨i, a, b, c, d⟩ := q.hd e
    exact .inr ⟨fun h => e (List.eq_nil_of_length_eq_zero h), i, fst1_some a b c, d⟩
theorem clone_nil : slices_Clone_int ([], ()) = some ([], ()) := by kernel_rfl
theorem takePage_eq {h : Heap} (q : HP h) {c : List (List Int)} (h4 : C4 c) (hl : c.length ≤ 1000) (r : RightP h c) {m k : Nat} (hm : m < c.length) (hk : k < 4) :
    take_Page (h, c, (m : Int), (k : Int), ()) = some (pageF h c m k) := by
  have hn := q.f.n16
  obtain ⟨r3, e3, q3⟩ := takePage_l3 hn h4 hl (k : Int)
  obtain ⟨r7, e7, q7⟩ := takePage_l7 hn
  simp only [take_Page, take_Page_r, Bool.cond_decide, Int.toNat_natCast, ibne, ibeq, clone_nil, queue_row_Len, queue_row_Len_r, Option.bind_some, List.length_nil]
  have ev : (c.getD m (List.replicate 4 0)).getD k 0 = ent c m k := rfl
  have es : h.2.1.getD (ent c m k).toNat sz = spanAt h (ent c m k) := rfl
  have e0 : ((0 : Nat) : Int) = 0 := rfl
  have ew' : wi64 (wi64 (Int.tdiv 0 2) - 1) = -1 := by kernel_rfl
  simp only [show ((0 : Int), (0 : Int), (0 : Int), ()) = sz from rfl, ev, es, e0, ew', init_l1, init_l5, Option.bind_some, e3, e7]
  have rest : (if (r3.length : Int) = 0 then (if (r7.length : Int) = 0 then some ((0 : Int), false, ()) else if (0 : Int) < (r7.length : Int) then some (r7.getD 0 0, true, ()) else none) else if (0 : Int) < (r3.length : Int) then some (r3.getD 0 0, true, ()) else none) = some (pageR h c k) := by
    unfold pageR
    rcases q3.fst with ⟨rfl, f⟩ | ⟨hl3, i, f, d⟩
    · rw [f, if_pos (show ((([] : List Int).length : Int)) = 0 from rfl)]
      rcases q7.fst with ⟨rfl, f⟩ | ⟨hl7, i, f, d⟩
      · rw [f, if_pos (show ((([] : List Int).length : Int)) = 0 from rfl)]
      · rw [f, if_neg (by omega), if_pos (by omega), d]
    · rw [f, if_neg (by omega), if_pos (by omega), d]
  rw [if_pos (by omega), if_pos (by omega), if_pos (by omega), if_pos (by omega)]
  unfold pageF
  rcases ent_rng r hm hk with e | hv
  · rw [if_neg (show ¬ ¬ ent c m k = -1 from fun h => h e), if_neg (show ¬ (ent c m k ≠ -1 ∧ openB (spanAt h (ent c m k)) = true) from fun h => h.1 e)]
    exact rest
  · have i0 := hv.1.1
    have i1 := hv.1.2
    rw [if_pos (show ¬ ent c m k = -1 by omega), if_pos (show 0 ≤ ent c m k by omega), if_pos (show ent c m k < (h.2.1.length : Int) by omega), takeOpen_eq, Option.bind_some]
    dsimp only
    cases ho : openB (spanAt h (ent c m k)) with
    | true =>
      rw [cond_true, if_pos ⟨by omega, rfl⟩]
    | false =>
      rw [cond_false, if_neg (show ¬ (ent c m k ≠ -1 ∧ false = true) from fun h => by cases h.2)]
      exact rest
end Go.Proofs.YtebdioogklmeaaaDoor.Den
