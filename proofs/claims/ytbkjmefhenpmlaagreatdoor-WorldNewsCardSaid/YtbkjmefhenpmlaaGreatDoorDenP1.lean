/- Pure laws. -/
import Derived.Test.YtbkjmefhenpmlaaGreatDoorDenFz
/- Pure laws: words, loops. -/
namespace Go.Proofs.YtbkjmefhenpmlaaGreatDoor.Den
open Go
set_option linter.unusedVariables false
set_option linter.unusedSimpArgs false
theorem wi64_id {n : Int} (h1 : -9223372036854775808 ≤ n) (h2 : n < 9223372036854775808) : wi64 n = n := by
 have : IntKind.wrap .i64 n = (if (n % 18446744073709551616) ≥ 9223372036854775808 then n % 18446744073709551616 - 18446744073709551616 else n % 18446744073709551616) := by
  simp [IntKind.wrap, IntKind.bits, IntKind.signed]
 rw [wi64, this]; split <;> omega
theorem wi64_rng (n : Int) : -9223372036854775808 ≤ wi64 n ∧ wi64 n < 9223372036854775808 := by
 have : IntKind.wrap .i64 n = (if (n % 18446744073709551616) ≥ 9223372036854775808 then n % 18446744073709551616 - 18446744073709551616 else n % 18446744073709551616) := by
  simp [IntKind.wrap, IntKind.bits, IntKind.signed]
 rw [wi64, this]; split <;> omega
theorem wu64_eq (n : Int) : wu64 n = n % 18446744073709551616 := by
 simp [wu64, IntKind.wrap, IntKind.bits, IntKind.signed]
theorem wu32_eq (n : Int) : wu32 n = n % 4294967296 := by
 simp [wu32, IntKind.wrap, IntKind.bits, IntKind.signed]
theorem wu64_id {n : Int} (h1 : 0 ≤ n) (h2 : n < 18446744073709551616) : wu64 n = n := by rw [wu64_eq]; omega
theorem wu32_id {n : Int} (h1 : 0 ≤ n) (h2 : n < 4294967296) : wu32 n = n := by rw [wu32_eq]; omega
theorem iterL_rule {h o r : U} {step : h.T → Option (SRes h o r)} {Q : LRes o r → Prop} (I : Nat → h.T → Prop)
  (hs : ∀ n x, I n x → (∃ m y, m < n ∧ step x = some (.next y) ∧ I m y) ∨ ∃ l, step x = some (.fin l) ∧ Q l) :
  ∀ fuel n x, n < fuel → I n x → ∃ l, iterL step fuel x = some l ∧ Q l := by
 intro fuel
 induction fuel with
 | zero => intro n x h; omega
 | succ k ih =>
  intro n x h hI
  rcases hs n x hI with ⟨m, y, hm, e, hy⟩ | ⟨l, e, hl⟩
  ·obtain ⟨l, e', hl⟩ := ih m y (by omega) hy
   exact ⟨l, by simp only [iterL, e]; exact e', hl⟩
  ·exact ⟨l, by simp only [iterL, e], hl⟩
theorem iterL_count {h o r : U} {step : h.T → Option (SRes h o r)} {Q : LRes o r → Prop} (N : Nat) (g : Nat → h.T)
  (hs : ∀ i, i < N → step (g i) = some (.next (g (i + 1))) ∨ ∃ l, step (g i) = some (.fin l) ∧ Q l)
  (he : ∃ l, step (g N) = some (.fin l) ∧ Q l) {fuel : Nat} (hf : N < fuel) {x : h.T} (hx : x = g 0) : ∃ l, iterL step fuel x = some l ∧ Q l := by
 subst hx
 refine iterL_rule (fun n x => ∃ i, i ≤ N ∧ n = N - i ∧ x = g i) ?_ fuel N _ hf ⟨0, by omega, by omega, rfl⟩
 rintro n x ⟨i, hi, rfl, rfl⟩
 by_cases h : i < N
 ·rcases hs i h with e | e
  ·exact .inl ⟨N - (i + 1), _, by omega, e, i + 1, by omega, rfl, rfl⟩
  ·exact .inr e
 ·obtain rfl : i = N := by omega
  exact .inr he
theorem iterL_run {h o r : U} {step : h.T → Option (SRes h o r)} (N : Nat) (g : Nat → h.T) {l : LRes o r}
  (hs : ∀ i, i < N → step (g i) = some (.next (g (i + 1)))) (he : step (g N) = some (.fin l)) {fuel : Nat} (hf : N < fuel) {x : h.T} (hx : x = g 0) : iterL step fuel x = some l := by
 obtain ⟨l', e, rfl⟩ := iterL_count (Q := fun x => x = l) N g (fun i hi => .inl (hs i hi)) ⟨l, he, rfl⟩ hf hx
 exact e
theorem ibeq (a b : Int) : (a == b) = decide (a = b) := rfl
theorem ibne (a b : Int) : (a != b) = decide (¬ a = b) := by rw [bne, ibeq, decide_not]
theorem condn {α : Type} (b : Bool) (x y : α) : (bif !b then x else y) = bif b then y else x := by cases b <;> rfl
theorem get_d {α} (xs : List α) (i : Nat) (z : α) (h : i < xs.length) : xs.getD i z = xs[i] := by
 simp [List.getD, h]
end Go.Proofs.YtbkjmefhenpmlaaGreatDoor.Den
/- Pure laws: classes, bits, spans, the heap's form. -/
namespace Go.Proofs.YtbkjmefhenpmlaaGreatDoor.Den
open Go
set_option linter.unusedVariables false
set_option linter.unusedSimpArgs false
set_option maxRecDepth 10000
def cw (c : Int) : Int := if c = 0 then 2 else if c = 1 then 4 else if c = 2 then 8 else if c = 3 then 16 else 0
def cb (c : Int) : Int := if c = 0 then 16 else if c = 1 then 8 else if c = 2 then 4 else if c = 3 then 2 else 0
theorem class_cases (c : Int) : c = 0 ∨ c = 1 ∨ c = 2 ∨ c = 3 ∨ (c < 0 ∨ 3 < c) := by omega
theorem cw_out {c : Int} (h : c < 0 ∨ 3 < c) : cw c = 0 := by
 unfold cw; rw [if_neg (by omega), if_neg (by omega), if_neg (by omega), if_neg (by omega)]
theorem cb_out {c : Int} (h : c < 0 ∨ 3 < c) : cb c = 0 := by
 unfold cb; rw [if_neg (by omega), if_neg (by omega), if_neg (by omega), if_neg (by omega)]
theorem class_is_eq (c : Int) : class_is (c, ()) = some (decide (0 ≤ c ∧ c < 4), ()) := by
 simp only [class_is, class_is_r, Bool.cond_decide]
 by_cases h : 0 ≤ c <;> simp [h]
theorem class_Words_eq (c : Int) : class_Words (c, ()) = some (cw c, ()) := by
 rcases class_cases c with rfl | rfl | rfl | rfl | h
 ·kernel_rfl
 ·kernel_rfl
 ·kernel_rfl
 ·kernel_rfl
 ·rw [cw_out h]
  simp only [class_Words, class_Words_r, class_is_eq]
  have : ¬ (0 ≤ c ∧ c < 4) := by omega
  simp [this]
theorem words4_eq (c : Int) : r04_Words (c, ()) = some (cw c, ()) := by
 rcases class_cases c with rfl | rfl | rfl | rfl | h
 ·kernel_rfl
 ·kernel_rfl
 ·kernel_rfl
 ·kernel_rfl
 ·rw [cw_out h]
  simp only [r04_Words, r04_Words_r, Bool.cond_decide]
  by_cases h1 : c < 0
  ·simp [h1]
  ·simp [h1, show c > 3 by omega]
theorem blocks4_eq (c : Int) : r04_Blocks (c, ()) = some (cb c, ()) := by
 rcases class_cases c with rfl | rfl | rfl | rfl | h
 ·kernel_rfl
 ·kernel_rfl
 ·kernel_rfl
 ·kernel_rfl
 ·rw [cb_out h]
  simp only [r04_Blocks, r04_Blocks_r, Bool.cond_decide]
  by_cases h1 : c < 0
  ·simp [h1]
  ·simp [h1, show c > 3 by omega]
def bit (b : Int) (i : Nat) : Bool := decide (b / 2 ^ i % 2 = 1)
theorem has_eq {b : Int} (hb : 0 ≤ b) (hb' : b < 4294967296) (i : Int) : r03_Has (b, i, ()) = some (decide (0 ≤ i ∧ i ≤ 31) && bit b i.toNat, ()) := by
 simp only [r03_Has, r03_Has_r, Bool.cond_decide]
 by_cases h1 : i < 0
 ·simp [h1, show ¬ 0 ≤ i by omega]
 by_cases h2 : i > 31
 ·simp [h1, h2, show ¬ i ≤ 31 by omega]
 rw [if_neg h1, if_neg h2]
 have hr : r03_Has_l0 (b, i, 0, ()) = some (.out (b / 2 ^ i.toNat, ())) := by
  unfold r03_Has_l0
  refine iterL_run i.toNat (fun j => (b / 2 ^ j, i, (j : Int), ())) ?_ ?_ (by omega) (by simp)
  ·intro j hj
   have h0 : 0 ≤ b / 2 ^ j := Int.ediv_nonneg hb (Int.le_of_lt (Int.pow_pos (by decide)))
   have h3 : b / 2 ^ j ≤ b := Int.ediv_le_self _ hb
   simp only [r03_Has_s0, r03_Has_s0r]
   rw [show decide ((j : Int) < i) = true from decide_eq_true (by omega), cond_true, wi64_id (by omega) (by omega), Int.tdiv_eq_ediv_of_nonneg h0, wu32_id (by omega) (by omega), Int.ediv_ediv_of_nonneg (Int.le_of_lt (Int.pow_pos (by decide))), ← Int.pow_succ]
   rfl
  ·simp only [r03_Has_s0, r03_Has_s0r]
   rw [show decide ((i.toNat : Int) < i) = false from decide_eq_false (by omega)]
   rfl
 have e : (0 : Int) = ((0 : Nat) : Int) := rfl
 simp only [hr, Option.bind_some]
 rw [Int.tmod_eq_emod_of_nonneg (Int.ediv_nonneg hb (Int.le_of_lt (Int.pow_pos (by decide))))]
 simp [bit, show 0 ≤ i by omega, show i ≤ 31 by omega]
 rfl
theorem bits_lt {b : Int} (hb : 0 ≤ b) (hb' : b < 4294967296) {k : Nat} (h : ∀ i, k ≤ i → i < 32 → bit b i = false) (hk : k ≤ 32) : b < 2 ^ k := by
 have : ∀ d, d ≤ 32 - k → b < 2 ^ (32 - d) := by
  intro d
  induction d with
  | zero => intro _; exact hb'
  | succ d ih =>
   intro hd
   have h1 := ih (by omega)
   have h2 := h (32 - (d + 1)) (by omega) (by omega)
   rw [show 32 - d = (32 - (d + 1)) + 1 by omega, Int.pow_succ] at h1
   simp only [bit, decide_eq_false_iff_not] at h2
   have hp : (0 : Int) < 2 ^ (32 - (d + 1)) := Int.pow_pos (by decide)
   generalize (2 : Int) ^ (32 - (d + 1)) = p at h1 h2 hp ⊢
   have h3 : b / p < 2 := Int.ediv_lt_of_lt_mul hp (by omega)
   have h4 : 0 ≤ b / p := Int.ediv_nonneg hb (Int.le_of_lt hp)
   have h5 : b / p = 0 := by omega
   exact Int.lt_of_not_ge fun h6 => by
    have := Int.le_ediv_of_mul_le hp (show 1 * p ≤ b by omega)
    omega
 have := this (32 - k) (Nat.le_refl _)
 rwa [show 32 - (32 - k) = k by omega] at this
theorem two_pow_le {k i : Nat} (h : k ≤ i) : (2 : Int) ^ k ≤ 2 ^ i := by
 have := Nat.pow_le_pow_right (n := 2) (by decide) h
 exact_mod_cast this
theorem bit_lt {b : Int} (hb : 0 ≤ b) {i k : Nat} (h : b < 2 ^ k) (hk : k ≤ i) : bit b i = false := by
 have : b / 2 ^ i = 0 := Int.ediv_eq_zero_of_lt hb (Int.lt_of_lt_of_le h (two_pow_le hk))
 simp [bit, this]
def rightB (s : Span) : Bool := if s.1 = 0 then decide (s.2.1 = 0 ∧ s.2.2.1 = 0) else decide ((s.1 = 1 ∨ s.1 = 2) ∧ 0 ≤ s.2.1 ∧ s.2.1 ≤ 3 ∧ s.2.2.1 < 2 ^ (cb s.2.1).toNat)
theorem inUse_eq (s : Span) : r06_InUse (s, ()) = some (decide (s.1 = 1 ∨ s.1 = 2), ()) := by
 simp only [r06_InUse, r06_InUse_r, ibeq, Bool.cond_decide]
 by_cases h : s.1 = 1
 ·simp [h]
 ·simp [h]
theorem cb_le (c : Int) : 0 ≤ cb c ∧ cb c ≤ 16 := by
 unfold cb; split <;> (try split) <;> (try split) <;> (try split) <;> omega
theorem cw_le (c : Int) : 0 ≤ cw c ∧ cw c ≤ 16 := by
 unfold cw; split <;> (try split) <;> (try split) <;> (try split) <;> omega
theorem right_eq (s : Span) (h0 : 0 ≤ s.2.2.1) (h1 : s.2.2.1 < 4294967296) : r06_Right (s, ()) = some (rightB s, ()) := by
 simp only [r06_Right, r06_Right_r, inUse_eq, Option.bind_some, Bool.cond_decide, blocks4_eq, rightB, ibeq]
 by_cases hs : s.1 = 0
 ·by_cases hc : s.2.1 = 0
  ·simp [hs, hc]
  ·simp [hs, hc]
 simp only [if_neg hs]
 by_cases hu : s.1 = 1 ∨ s.1 = 2
 ·by_cases c0 : s.2.1 < 0
  ·simp [hu, c0, show ¬ 0 ≤ s.2.1 by omega]
  by_cases c3 : s.2.1 > 3
  ·simp [hu, c0, c3, show ¬ s.2.1 ≤ 3 by omega]
  have hl := cb_le s.2.1
  have : ∃ l, r06_Right_l0 (cb s.2.1, s, ()) = some l ∧ l = (if s.2.2.1 < 2 ^ (cb s.2.1).toNat then .out () else .ret (false, ())) := by
   unfold r06_Right_l0
   refine iterL_rule (fun n x => ∃ i : Nat, (cb s.2.1).toNat ≤ i ∧ i ≤ 32 ∧ n = 32 - i ∧ x = ((i : Int), s, ()) ∧ ∀ j, (cb s.2.1).toNat ≤ j → j < i → bit s.2.2.1 j = false) ?_ _ (32 - (cb s.2.1).toNat) _ (by omega) ⟨(cb s.2.1).toNat, by omega, by omega, rfl, by rw [Int.toNat_of_nonneg hl.1], fun j h2 h3 => by omega⟩
   rintro n x ⟨i, i1, i2, rfl, rfl, hi⟩
   simp only [r06_Right_s0, r06_Right_s0r, has_eq h0 h1, Option.bind_some, Bool.cond_decide]
   by_cases h : (i : Int) < 32
   ·rw [if_pos h]
    cases hb : bit s.2.2.1 i with
    | true =>
     refine .inr ⟨.ret (false, ()), by simp [hb, show (i : Int) ≤ 31 by omega], ?_⟩
     rw [if_neg]
     intro hlt
     rw [bit_lt h0 hlt i1] at hb
     cases hb
    | false =>
     refine .inl ⟨32 - (i + 1), (((i + 1 : Nat) : Int), s, ()), by omega, ?_, i + 1, by omega, by omega, rfl, rfl, fun j j1 j2 => ?_⟩
     ·simp only [Int.toNat_natCast, hb, Bool.and_false, cond_false]
      rw [wi64_id (by omega) (by omega)]; rfl
     ·by_cases e : j = i
      ·rw [e, hb]
      ·exact hi j j1 (by omega)
   ·rw [if_neg h]
    refine .inr ⟨_, rfl, ?_⟩
    rw [if_pos]
    exact bits_lt h0 h1 (fun j j1 j2 => hi j j1 (by omega)) (by omega)
  obtain ⟨l, e1, e2⟩ := this
  simp only [e1, e2, Option.bind_some]
  by_cases hlt : s.2.2.1 < 2 ^ (cb s.2.1).toNat
  ·simp [hu, c0, c3, hlt]; omega
  ·simp [hu, c0, c3, hlt]
 ·simp [hu]
end Go.Proofs.YtbkjmefhenpmlaaGreatDoor.Den
/- Pure laws: the heap's form; the program's blocks and headers. -/
namespace Go.Proofs.YtbkjmefhenpmlaaGreatDoor.Den
open Go
set_option linter.unusedVariables false
set_option linter.unusedSimpArgs false
set_option maxRecDepth 10000
def formB (h : Heap) : Bool := decide (1 ≤ h.2.1.length ∧ h.2.1.length ≤ 16 ∧ h.1.length = 32 * h.2.1.length) && h.2.1.all rightB
theorem good_span {h : Heap} (g : Good cHeap h) {s : Span} (hs : s ∈ h.2.1) : 0 ≤ s.2.2.1 ∧ s.2.2.1 < 4294967296 := by
 obtain ⟨a, b⟩ : (0 : Int) ≤ s.2.2.1 ∧ s.2.2.1 ≤ 4294967295 := (g.2.1.2 s hs).2.2.1
 omega
theorem good_word {h : Heap} (g : Good cHeap h) {w : Int} (hs : w ∈ h.1) : 0 ≤ w ∧ w < 18446744073709551616 := by
 obtain ⟨a, b⟩ : (0 : Int) ≤ w ∧ w ≤ 18446744073709551615 := g.1.2 w hs
 omega
theorem form_eq {h : Heap} (g : Good cHeap h) : r07_Form (h, ()) = some (formB h, ()) := by
 simp only [r07_Form, r07_Form_r, Bool.cond_decide, ibne, formB]
 have hl : (h.2.1.length : Int) ≤ 9223372036854775807 := Int.ofNat_le.2 g.2.1.1
 by_cases h1 : (h.2.1.length : Int) < 1
 ·simp [h1, show ¬ 1 ≤ h.2.1.length by omega]
 by_cases h2 : (h.2.1.length : Int) > 16
 ·simp [h1, h2, show ¬ h.2.1.length ≤ 16 by omega]
 rw [if_neg h1, if_neg h2, wi64_id (by omega) (by omega)]
 by_cases h3 : (h.1.length : Int) = 32 * (h.2.1.length : Int)
 ·rw [if_neg (by simpa using h3)]
  obtain ⟨l, e1, e2⟩ : ∃ l, r07_Form_l0 (0, h, ()) = some l ∧ l = (if h.2.1.all rightB then .out () else .ret (false, ())) := by
   unfold r07_Form_l0
   refine iterL_rule (fun n x => ∃ i : Nat, i ≤ h.2.1.length ∧ n = h.2.1.length - i ∧ x = ((i : Int), h, ()) ∧ ∀ j (hj : j < i) (hj' : j < h.2.1.length), rightB h.2.1[j] = true) ?_ _ h.2.1.length _ (by omega) ⟨0, by omega, rfl, rfl, fun j hj => by omega⟩
   rintro n x ⟨i, i2, rfl, rfl, hi⟩
   simp only [r07_Form_s0, r07_Form_s0r, Bool.cond_decide]
   by_cases hn : i < h.2.1.length
   ·rw [if_pos (by omega), if_pos (by omega), if_pos (by omega), Int.toNat_natCast, get_d _ _ _ hn]
    obtain ⟨b0, b1⟩ := good_span g (List.getElem_mem hn)
    rw [right_eq _ b0 b1, Option.bind_some, condn]
    cases hr : rightB h.2.1[i] with
    | true =>
     refine .inl ⟨h.2.1.length - (i + 1), (((i + 1 : Nat) : Int), h, ()), by omega, ?_, i + 1, by omega, by omega, rfl, fun j j1 j2 => ?_⟩
     ·rw [wi64_id (by omega) (by omega)]; rfl
     ·by_cases e : j = i
      ·subst e; exact hr
      ·exact hi j (by omega) j2
    | false =>
     refine .inr ⟨_, rfl, ?_⟩
     rw [if_neg]
     intro ha
     have := List.all_eq_true.1 ha _ (List.getElem_mem hn)
     rw [hr] at this; cases this
   ·rw [if_neg (by omega)]
    refine .inr ⟨_, rfl, ?_⟩
    rw [if_pos]
    rw [List.all_eq_true]
    intro s hs
    obtain ⟨j, hj, rfl⟩ := List.mem_iff_getElem.1 hs
    exact hi j (by omega) hj
  simp only [e1, e2, Option.bind_some]
  have : 1 ≤ h.2.1.length ∧ h.2.1.length ≤ 16 ∧ h.1.length = 32 * h.2.1.length := by omega
  simp only [this, decide_true, Bool.true_and]
  cases h.2.1.all rightB <;> rfl
 ·rw [if_pos h3]
  have : ¬ (1 ≤ h.2.1.length ∧ h.2.1.length ≤ 16 ∧ h.1.length = 32 * h.2.1.length) := by omega
  simp [this]
structure FormP (h : Heap) : Prop where
 n1 : 1 ≤ h.2.1.length
 n16 : h.2.1.length ≤ 16
 len : h.1.length = 32 * h.2.1.length
 right : ∀ s ∈ h.2.1, rightB s = true
 word : ∀ w ∈ h.1, 0 ≤ w ∧ w < 18446744073709551616
theorem form_of {h : Heap} (g : Good cHeap h) (hb : formB h = true) : FormP h := by
 simp only [formB, Bool.and_eq_true, decide_eq_true_eq, List.all_eq_true] at hb
 exact ⟨hb.1.1, hb.1.2.1, hb.1.2.2, hb.2, fun w hw => good_word g hw⟩
theorem FormP.span {h : Heap} (f : FormP h) {s : Span} (hs : s ∈ h.2.1) (hu : s.1 ≠ 0) : 0 ≤ s.2.1 ∧ s.2.1 ≤ 3 := by
 have := f.right s hs
 simp only [rightB, if_neg hu, decide_eq_true_eq] at this
 omega
end Go.Proofs.YtbkjmefhenpmlaaGreatDoor.Den
/- Pure laws: blocks. -/
namespace Go.Proofs.YtbkjmefhenpmlaaGreatDoor.Den
open Go
set_option linter.unusedVariables false
set_option linter.unusedSimpArgs false
set_option maxRecDepth 100000
def sz : Span := (0, 0, 0, ())
theorem page_eq (h : Heap) (p : Int) : heap_page (h, p, ()) = some (if 0 ≤ p ∧ p < h.2.1.length then (h.2.1.getD p.toNat sz, true, ()) else (sz, false, ())) := by
 simp only [heap_page, heap_page_r, Bool.cond_decide, sz]
 by_cases h1 : p < 0
 ·rw [if_pos h1, if_neg (by omega)]
 by_cases h2 : p ≥ (h.2.1.length : Int)
 ·rw [if_neg h1, if_pos h2, if_neg (by omega)]
 rw [if_neg h1, if_neg h2, if_pos (by omega), if_pos (by omega), if_pos (by omega)]
def spanOf (h : Heap) (at_ : Int) : Span := h.2.1.getD (at_ / 32).toNat sz
def fndB (h : Heap) (at_ : Int) : Bool := decide (0 ≤ at_ ∧ at_ < 32 * h.2.1.length ∧ (spanOf h at_).1 ≠ 0 ∧ at_ % cw (spanOf h at_).2.1 = 0)
def fnd (h : Heap) (at_ : Int) : Int × Int × Bool × Unit := if fndB h at_ then (at_ / 32, at_ % 32 / cw (spanOf h at_).2.1, true, ()) else (0, 0, false, ())
theorem FormP.spanAt {h : Heap} (f : FormP h) {a : Int} (h0 : 0 ≤ a) (h1 : a < 32 * h.2.1.length) (hu : (spanOf h a).1 ≠ 0) : 0 ≤ (spanOf h a).2.1 ∧ (spanOf h a).2.1 ≤ 3 := by
 have hn : (a / 32).toNat < h.2.1.length := by omega
 unfold spanOf at *
 rw [get_d _ _ _ hn] at *
 exact f.span (List.getElem_mem hn) hu
theorem cw_pos {c : Int} (h0 : 0 ≤ c) (h3 : c ≤ 3) : 2 ≤ cw c := by
 unfold cw; split <;> (try split) <;> (try split) <;> (try split) <;> omega
theorem find_eq {h : Heap} (f : FormP h) {a : Int} (l : -9223372036854775808 ≤ a) (u : a < 9223372036854775808) : heap_Find (h, a, ()) = some (fnd h a) := by
 have hn := f.n16
 simp only [heap_Find, heap_Find_r, page_eq, Option.bind_some, Bool.cond_decide, ibeq, fnd, fndB, decide_eq_true_eq]
 by_cases h0 : a < 0
 ·rw [if_pos h0, if_neg (by omega)]
 rw [if_neg h0, Int.tdiv_eq_ediv_of_nonneg (by omega), wi64_id (by omega) (by omega)]
 by_cases h1 : a < 32 * h.2.1.length
 ·rw [if_pos (by omega)]
  simp only [Bool.not_true, cond_false]
  change (if (spanOf h a).1 = 0 then _ else (arena_Place ((spanOf h a).2.1, a, ())).bind _) = _
  by_cases hu : (spanOf h a).1 = 0
  ·rw [if_pos hu, if_neg (fun h => h.2.2.1 hu)]
  rw [if_neg hu]
  obtain ⟨c0, c3⟩ := f.spanAt (by omega) h1 hu
  have hc := cw_pos c0 c3
  have hc' := cw_le (spanOf h a).2.1
  simp only [arena_Place, arena_Place_r, class_Words_eq, Option.bind_some, Bool.cond_decide, ibeq, ibne]
  generalize cw (spanOf h a).2.1 = c at *
  rw [if_neg (by omega), if_neg (by omega), if_neg (by omega), if_neg (by omega), Int.tmod_eq_emod_of_nonneg (by omega), Int.tdiv_eq_ediv_of_nonneg (by omega), Int.tmod_eq_emod_of_nonneg (by omega), Int.tdiv_eq_ediv_of_nonneg (by omega)]
  by_cases hm : a % c = 0
  ·have hd : a % 32 / c ≤ a % 32 := Int.ediv_le_self _ (by omega)
   have hd' : 0 ≤ a % 32 / c := Int.ediv_nonneg (by omega) (by omega)
   rw [if_neg (by simpa using hm), if_neg (by omega), if_pos ⟨by omega, h1, hu, hm⟩, wi64_id (by omega) (by omega), wi64_id (by omega) (by omega)]
   rfl
  ·rw [if_pos hm, if_neg (fun h => hm h.2.2.2)]
   rfl
 ·rw [if_neg (by omega)]
  simp only [Bool.not_false, cond_true]
  rw [if_neg (fun h => h1 h.2.1)]
theorem fndB_rng {h : Heap} {a : Int} (hb : fndB h a = true) : 0 ≤ a ∧ a < 32 * h.2.1.length := by
 simp only [fndB, decide_eq_true_eq] at hb; omega
end Go.Proofs.YtbkjmefhenpmlaaGreatDoor.Den
/- Pure laws: the references' objects, and painting. -/
namespace Go.Proofs.YtbkjmefhenpmlaaGreatDoor.Den
open Go
set_option linter.unusedVariables false
set_option linter.unusedSimpArgs false
set_option maxRecDepth 100000
theorem class4 {c : Int} (h0 : 0 ≤ c) (h3 : c ≤ 3) : (cw c = 2 ∧ cb c = 16) ∨ (cw c = 4 ∧ cb c = 8) ∨ (cw c = 8 ∧ cb c = 4) ∨ (cw c = 16 ∧ cb c = 2) := by
 obtain rfl | rfl | rfl | rfl : c = 0 ∨ c = 1 ∨ c = 2 ∨ c = 3 := by omega
 all_goals decide
theorem find7_l0 {h : Heap} (f : FormP h) (a : Int) (p : Nat) (hp : p < h.2.1.length) (hu : (h.2.1.getD p sz).1 ≠ 0) :
  r07_Find_l0 (a, p, 0, h, ()) = some (if 32 * (p : Int) ≤ a ∧ a < 32 * (p : Int) + 32 ∧ a % 32 % cw (h.2.1.getD p sz).2.1 = 0 then .ret (p, a % 32 / cw (h.2.1.getD p sz).2.1, true, ()) else .out (a, p, h, ())) := by
 have hn := f.n16
 have hc : 0 ≤ (h.2.1.getD p sz).2.1 ∧ (h.2.1.getD p sz).2.1 ≤ 3 := by
  rw [get_d _ _ _ hp] at *
  exact f.span (List.getElem_mem hp) hu
 have h4 := class4 hc.1 hc.2
 have key : ∃ l, r07_Find_l0 (a, p, 0, h, ()) = some l ∧ l = (if 32 * (p : Int) ≤ a ∧ a < 32 * (p : Int) + 32 ∧ a % 32 % cw (h.2.1.getD p sz).2.1 = 0 then .ret (p, a % 32 / cw (h.2.1.getD p sz).2.1, true, ()) else .out (a, p, h, ())) := by
  unfold r07_Find_l0
  refine iterL_rule (fun n x => ∃ i : Nat, (i : Int) ≤ cb (h.2.1.getD p sz).2.1 ∧ n = (cb (h.2.1.getD p sz).2.1).toNat - i ∧ x = (a, (p : Int), (i : Int), h, ()) ∧ (32 * (p : Int) ≤ a → a < 32 * (p : Int) + 32 → a % 32 % cw (h.2.1.getD p sz).2.1 = 0 → (i : Int) ≤ a % 32 / cw (h.2.1.getD p sz).2.1)) ?_ _ (cb (h.2.1.getD p sz).2.1).toNat _ (by omega) ⟨0, by omega, by omega, rfl, fun h1 h2 h3 => ?_⟩
  ·rintro n x ⟨i, i1, rfl, rfl, hi⟩
   simp only [r07_Find_s0, r07_Find_s0r, Bool.cond_decide, blocks4_eq, words4_eq, Option.bind_some, ibeq, Int.toNat_natCast]
   rw [if_pos (by omega), if_pos (by omega)]
   simp only [show ((0 : Int), (0 : Int), (0 : Int), ()) = sz from rfl]
   generalize (h.2.1.getD p sz).2.1 = c at *
   generalize cw c = w at *
   generalize cb c = b at *
   clear hc hu f
   by_cases hb : (i : Int) < b
   ·rw [if_pos hb, if_pos (by omega), if_pos (by omega)]
    have hm : 0 ≤ (i : Int) * w ∧ (i : Int) * w ≤ 32 := by
     rcases h4 with ⟨rfl, rfl⟩ | ⟨rfl, rfl⟩ | ⟨rfl, rfl⟩ | ⟨rfl, rfl⟩ <;> omega
    rw [wi64_id (n := 32 * (p : Int)) (by omega) (by omega), wi64_id (n := (i : Int) * w) (by omega) (by omega), wi64_id (by omega) (by omega)]
    by_cases e : 32 * (p : Int) + (i : Int) * w = a
    ·right
     refine ⟨_, by rw [if_pos e], ?_⟩
     rw [if_pos (by rcases h4 with ⟨rfl, rfl⟩ | ⟨rfl, rfl⟩ | ⟨rfl, rfl⟩ | ⟨rfl, rfl⟩ <;> omega)]
     have : a % 32 / w = i := by rcases h4 with ⟨rfl, rfl⟩ | ⟨rfl, rfl⟩ | ⟨rfl, rfl⟩ | ⟨rfl, rfl⟩ <;> omega
     rw [this]
    ·left
     refine ⟨(b).toNat - (i + 1), (a, (p : Int), ((i + 1 : Nat) : Int), h, ()), by omega, ?_, i + 1, by omega, rfl, rfl, fun h1 h2 h3 => ?_⟩
     ·rw [if_neg e, wi64_id (by omega) (by omega)]; rfl
     ·have := hi h1 h2 h3
      rcases h4 with ⟨rfl, rfl⟩ | ⟨rfl, rfl⟩ | ⟨rfl, rfl⟩ | ⟨rfl, rfl⟩ <;> omega
   ·right
    refine ⟨_, by rw [if_neg hb], ?_⟩
    rw [if_neg]
    rintro ⟨h1, h2, h3⟩
    have := hi h1 h2 h3
    rcases h4 with ⟨rfl, rfl⟩ | ⟨rfl, rfl⟩ | ⟨rfl, rfl⟩ | ⟨rfl, rfl⟩ <;> omega
  ·exact Int.ediv_nonneg (by omega) (by have := cw_le (h.2.1.getD p sz).2.1; omega)
 obtain ⟨l, e, rfl⟩ := key
 exact e
theorem find7_eq {h : Heap} (f : FormP h) (a : Int) : r07_Find (h, a, ()) = some (fnd h a) := by
 have hn := f.n16
 have key : ∃ l, r07_Find_l1 (a, 0, h, ()) = some l ∧ l = (if fndB h a = true then .ret (fnd h a) else .out ()) := by
  unfold r07_Find_l1
  refine iterL_rule (fun n x => ∃ p : Nat, p ≤ h.2.1.length ∧ n = h.2.1.length - p ∧ x = (a, (p : Int), h, ()) ∧ (fndB h a = true → (p : Int) ≤ a / 32)) ?_ _ h.2.1.length _ (by omega) ⟨0, by omega, rfl, rfl, fun hb => ?_⟩
  ·rintro n x ⟨p, p1, rfl, rfl, hi⟩
   simp only [r07_Find_s1, r07_Find_s1r, Bool.cond_decide, ibeq, Int.toNat_natCast]
   by_cases hp : p < h.2.1.length
   ·rw [if_pos (by omega), if_pos (by omega), if_pos (by omega)]
    simp only [show ((0 : Int), (0 : Int), (0 : Int), ()) = sz from rfl]
    have hnx : (fndB h a = true → (p : Int) ≠ a / 32) → wi64 ((p : Int) + 1) = ((p + 1 : Nat) : Int) ∧ (fndB h a = true → ((p + 1 : Nat) : Int) ≤ a / 32) := fun hh => ⟨wi64_id (by omega) (by omega), fun hb => by
     have := hi hb; have := hh hb; omega⟩
    by_cases hu : (h.2.1.getD p sz).1 = 0
    ·left
     obtain ⟨e1, e2⟩ := hnx (fun hb e => by
      simp only [fndB, decide_eq_true_eq] at hb
      have hb := hb.2.2.1
      rw [spanOf, ← e, Int.toNat_natCast] at hb
      exact hb hu)
     exact ⟨h.2.1.length - (p + 1), (a, ((p + 1 : Nat) : Int), h, ()), by omega, by rw [if_pos hu, e1], p + 1, by omega, rfl, rfl, e2⟩
    ·rw [if_neg hu, find7_l0 f a p hp hu]
     have hs : (p : Int) = a / 32 → spanOf h a = h.2.1.getD p sz := fun e => by
      unfold spanOf; rw [← e, Int.toNat_natCast]
     have hmod : a % 32 % cw (h.2.1.getD p sz).2.1 = 0 ↔ a % cw (h.2.1.getD p sz).2.1 = 0 := by
      have hc : 0 ≤ (h.2.1.getD p sz).2.1 ∧ (h.2.1.getD p sz).2.1 ≤ 3 := by
       rw [get_d _ _ _ hp] at *
       exact f.span (List.getElem_mem hp) hu
      rcases class4 hc.1 hc.2 with ⟨e1, e'⟩ | ⟨e1, e'⟩ | ⟨e1, e'⟩ | ⟨e1, e'⟩ <;> rw [e1] <;> omega
     by_cases hh : 32 * (p : Int) ≤ a ∧ a < 32 * (p : Int) + 32 ∧ a % 32 % cw (h.2.1.getD p sz).2.1 = 0
     ·right
      have e : (p : Int) = a / 32 := by omega
      have hb : fndB h a = true := by
       simp only [fndB, decide_eq_true_eq, hs e]
       exact ⟨by omega, by omega, hu, hmod.1 hh.2.2⟩
      refine ⟨_, by rw [if_pos hh]; rfl, ?_⟩
      rw [if_pos hb, fnd, if_pos hb, hs e, ← e]
     ·left
      obtain ⟨e1, e2⟩ := hnx (fun hb e => by
       simp only [fndB, decide_eq_true_eq, hs e] at hb
       exact hh ⟨by omega, by omega, hmod.2 hb.2.2.2⟩)
      exact ⟨h.2.1.length - (p + 1), (a, ((p + 1 : Nat) : Int), h, ()), by omega, by rw [if_neg hh]; simp only [Option.bind_some]; rw [e1], p + 1, by omega, rfl, rfl, e2⟩
   ·rw [if_neg (by omega)]
    right
    refine ⟨_, rfl, ?_⟩
    rw [if_neg]
    intro hb
    have := hi hb
    have := fndB_rng hb
    omega
  ·have := fndB_rng hb; omega
 obtain ⟨l, e, rfl⟩ := key
 simp only [r07_Find, r07_Find_r, e, Option.bind_some]
 by_cases hb : fndB h a = true
 ·simp only [if_pos hb]
 ·simp only [if_neg hb, fnd]
end Go.Proofs.YtbkjmefhenpmlaaGreatDoor.Den
/- Pure laws: bits as the program has them. -/
namespace Go.Proofs.YtbkjmefhenpmlaaGreatDoor.Den
open Go
set_option linter.unusedVariables false
set_option linter.unusedSimpArgs false
set_option maxRecDepth 100000
theorem pow_cast (k : Nat) : ((2 : Int) ^ k) = ((2 ^ k : Nat) : Int) := (Int.natCast_pow 2 k).symm
theorem class_Blocks_eq (c : Int) : class_Blocks (c, ()) = some (cb c, ()) := by
 rcases class_cases c with rfl | rfl | rfl | rfl | h
 ·kernel_rfl
 ·kernel_rfl
 ·kernel_rfl
 ·kernel_rfl
 ·rw [cb_out h]
  simp only [class_Blocks, class_Blocks_r, class_is_eq]
  have : ¬ (0 ≤ c ∧ c < 4) := by omega
  simp [this]
theorem span_inUse_eq (s : Span) : span_inUse (s, ()) = some (decide (s.1 = 1 ∨ s.1 = 2), ()) := by
 simp only [span_inUse, span_inUse_r, ibeq, Bool.cond_decide]
 by_cases h : s.1 = 1
 ·simp [h]
 ·simp [h]
theorem whole_eq (c : Int) : span_whole (c, ()) = some (2 ^ (cb c).toNat - 1, ()) := by
 rcases class_cases c with rfl | rfl | rfl | rfl | h
 ·kernel_rfl
 ·kernel_rfl
 ·kernel_rfl
 ·kernel_rfl
 ·rw [cb_out h]
  simp only [span_whole, span_whole_r, class_Blocks_eq, cb_out h, Option.bind_some]
  kernel_rfl
theorem one_eq (n : Int) : bits_one (n, ()) = some (if 0 ≤ n ∧ n < 32 then 2 ^ n.toNat else 0, ()) := by
 simp only [bits_one, bits_one_r, Bool.cond_decide]
 by_cases h1 : n < 0
 ·rw [if_pos h1, if_neg (by omega)]
 by_cases h2 : n ≥ 32
 ·rw [if_neg h1, if_pos h2, if_neg (by omega)]
 rw [if_neg h1, if_neg h2, if_neg h1, if_pos (by omega)]
 have hp : (2 : Nat) ^ n.toNat < 2 ^ 32 := Nat.pow_lt_pow_right (by decide) (by omega)
 have e : shiftI true .u32 1 n = wu32 (2 ^ n.toNat) := by
  simp only [shiftI, cond_true, IntKind.bits]
  rw [Nat.min_eq_left (by omega), Int.one_mul]
 have e2 := pow_cast n.toNat
 rw [e, e2, wu32_id (Int.natCast_nonneg _) (Int.ofNat_lt.2 hp)]
theorem bit_test (m i : Nat) : bit (m : Int) i = m.testBit i := by
 unfold bit
 have e2 := pow_cast i
 rw [Nat.testBit_eq_decide_div_mod_eq, e2]
 rw [decide_eq_decide]
 omega
theorem and32 (m k : Nat) (hm : m < 4294967296) (hk : k < 4294967296) : bitsI .and .u32 (m : Int) (k : Int) = ((m &&& k : Nat) : Int) := by
 change wu32 (((BitVec.ofInt 32 (m : Int)) &&& (BitVec.ofInt 32 (k : Int))).toNat : Int) = _
 rw [BitVec.ofInt_natCast, BitVec.ofInt_natCast, BitVec.toNat_and, BitVec.toNat_ofNat, BitVec.toNat_ofNat, Nat.mod_eq_of_lt (by omega), Nat.mod_eq_of_lt (by omega)]
 have : m &&& k ≤ m := Nat.and_le_left
 rw [wu32_id (by omega) (by omega)]
theorem andNot32 (m k : Nat) (hm : m < 4294967296) (hk : k < 4294967296) : ∃ r : Nat, bitsI .andNot .u32 (m : Int) (k : Int) = (r : Int) ∧ r < 4294967296 ∧ ∀ i, r.testBit i = (m.testBit i && !k.testBit i) := by
 refine ⟨((BitVec.ofNat 32 m) &&& ~~~(BitVec.ofNat 32 k)).toNat, ?_, BitVec.isLt _, fun i => ?_⟩
 ·change wu32 (((BitVec.ofInt 32 (m : Int)) &&& ~~~(BitVec.ofInt 32 (k : Int))).toNat : Int) = _
  rw [BitVec.ofInt_natCast, BitVec.ofInt_natCast]
  have := BitVec.isLt ((BitVec.ofNat 32 m) &&& ~~~(BitVec.ofNat 32 k))
  rw [wu32_id (by omega) (by omega)]
 ·rw [BitVec.testBit_toNat]
  simp only [BitVec.getLsbD_and, BitVec.getLsbD_not, BitVec.getLsbD_ofNat]
  by_cases hi : i < 32
  ·simp [hi]
  ·have h1 : m.testBit i = false := Nat.testBit_lt_two_pow (Nat.lt_of_lt_of_le hm (Nat.pow_le_pow_right (n := 2) (by decide) (show 32 ≤ i by omega)))
   simp [hi, h1]
theorem bit_two (k i : Nat) : (2 ^ k : Nat).testBit i = decide (k = i) := Nat.testBit_two_pow ..
theorem hasP_eq {m : Int} (h0 : 0 ≤ m) (h1 : m < 4294967296) (n : Int) : bits_Has (m, n, ()) = some (decide (0 ≤ n ∧ n ≤ 31) && bit m n.toNat, ()) := by
 obtain ⟨m, rfl⟩ := Int.eq_ofNat_of_zero_le h0
 simp only [bits_Has, bits_Has_r, one_eq, Option.bind_some, ibne]
 by_cases hn : 0 ≤ n ∧ n < 32
 ·rw [if_pos hn]
  have hp : (2 : Nat) ^ n.toNat < 2 ^ 32 := Nat.pow_lt_pow_right (by decide) (by omega)
  have e2 := pow_cast n.toNat
  rw [e2, and32 m _ (by omega) hp, bit_test, decide_eq_true (show 0 ≤ n ∧ n ≤ 31 by omega), Bool.true_and]
  congr 1
  have : decide (¬ ((m &&& 2 ^ n.toNat : Nat) : Int) = 0) = m.testBit n.toNat := by
   have hb : (m &&& 2 ^ n.toNat).testBit n.toNat = m.testBit n.toNat := by
    rw [Nat.testBit_and, bit_two]; simp
   by_cases hz : m &&& 2 ^ n.toNat = 0
   ·rw [hz, Nat.zero_testBit] at hb
    rw [hz, ← hb]; rfl
   ·rw [decide_eq_true (by omega)]
    cases hc : m.testBit n.toNat
    ·exfalso; apply hz
     apply Nat.eq_of_testBit_eq
     intro i
     rw [Nat.testBit_and, bit_two, Nat.zero_testBit]
     by_cases e : n.toNat = i
     ·subst e; rw [hc]; rfl
     ·simp [e]
    ·rfl
  rw [this]
 ·rw [if_neg hn, decide_eq_false (show ¬ (0 ≤ n ∧ n ≤ 31) by omega)]
  have := and32 m 0 (by omega) (by omega)
  simp only [Nat.and_zero] at this
  have e : bitsI .and .u32 (m : Int) 0 = 0 := this
  rw [e]; rfl
theorem spanRight_eq (s : Span) (h0 : 0 ≤ s.2.2.1) (h1 : s.2.2.1 < 4294967296) : span_Right (s, ()) = some (rightB s, ()) := by
 simp only [span_Right, span_Right_r, span_inUse_eq, class_Blocks_eq, whole_eq, Option.bind_some, Bool.cond_decide, rightB, ibeq]
 by_cases hs : s.1 = 0
 ·rw [if_pos hs, if_pos hs, decide_eq_true hs]
  simp
 rw [if_neg hs, if_neg hs]
 by_cases hu : s.1 = 1 ∨ s.1 = 2
 ·rw [if_pos hu]
  by_cases hc : 0 ≤ s.2.1 ∧ s.2.1 ≤ 3
  ·have h4 := class4 hc.1 hc.2
   rw [if_pos (by rcases h4 with ⟨_, e⟩ | ⟨_, e⟩ | ⟨_, e⟩ | ⟨_, e⟩ <;> rw [e] <;> decide)]
   have hk : (cb s.2.1).toNat ≤ 16 := by have := cb_le s.2.1; omega
   obtain ⟨m, hm⟩ := Int.eq_ofNat_of_zero_le h0
   rw [hm] at h1 ⊢
   generalize (cb s.2.1).toNat = k at *
   have hp0 : 0 < (2 : Nat) ^ k := Nat.pow_pos (by decide)
   have hp : (2 : Nat) ^ k ≤ 2 ^ 16 := Nat.pow_le_pow_right (by decide) hk
   have e2 : ((2 : Int) ^ k - 1) = ((2 ^ k - 1 : Nat) : Int) := by
    rw [Int.ofNat_sub hp0, pow_cast]; rfl
   have e3 := pow_cast k
   obtain ⟨r, r1, r2, r3⟩ := andNot32 m (2 ^ k - 1) (by omega) (by omega)
   rw [e2, r1]
   congr 1
   have : decide ((r : Int) = 0) = decide ((s.1 = 1 ∨ s.1 = 2) ∧ 0 ≤ s.2.1 ∧ s.2.1 ≤ 3 ∧ (m : Int) < 2 ^ k) := by
    rw [decide_eq_decide, e3]
    constructor
    ·intro hr
     have hr : r = 0 := by omega
     refine ⟨hu, hc.1, hc.2, ?_⟩
     have : m < 2 ^ k := by
      apply Nat.lt_pow_two_of_testBit
      intro i hi
      have := r3 i
      rw [hr, Nat.zero_testBit, Nat.testBit_two_pow_sub_one] at this
      simpa [show ¬ i < k by omega] using this.symm
     exact Int.ofNat_lt.2 this
    ·rintro ⟨-, -, -, hlt⟩
     have hlt : m < 2 ^ k := Int.ofNat_lt.1 hlt
     have : r = 0 := by
      apply Nat.eq_of_testBit_eq
      intro i
      rw [r3, Nat.zero_testBit, Nat.testBit_two_pow_sub_one]
      by_cases hi : i < k
      ·simp [hi]
      ·have : m.testBit i = false := Nat.testBit_lt_two_pow (Nat.lt_of_lt_of_le hlt (Nat.pow_le_pow_right (by decide) (by omega)))
       simp [this]
     omega
   rw [this]
  ·rw [cb_out (by omega), if_neg (by decide)]
   rw [decide_eq_false (fun h => hc ⟨h.2.1, h.2.2.1⟩)]
 ·rw [if_neg hu, decide_eq_false (fun h => hu h.1)]
end Go.Proofs.YtbkjmefhenpmlaaGreatDoor.Den
/- Pure laws: masks. -/
namespace Go.Proofs.YtbkjmefhenpmlaaGreatDoor.Den
open Go
set_option linter.unusedVariables false
set_option linter.unusedSimpArgs false
set_option maxRecDepth 100000
end Go.Proofs.YtbkjmefhenpmlaaGreatDoor.Den
/- Pure laws: the least of a mask; a block taken, given back. -/
namespace Go.Proofs.YtbkjmefhenpmlaaGreatDoor.Den
open Go
set_option linter.unusedVariables false
set_option linter.unusedSimpArgs false
set_option maxRecDepth 100000
theorem rightB_free {s : Span} (hr : rightB s = true) (h0 : 0 ≤ s.2.2.1) : s.2.2.1 < 65536 := by
 unfold rightB at hr
 split at hr
 ·simp only [decide_eq_true_eq] at hr; omega
 ·simp only [decide_eq_true_eq] at hr
  have h1 := cb_le s.2.1
  have h2 : (2 : Int) ^ (cb s.2.1).toNat ≤ 2 ^ 16 := two_pow_le (by omega)
  omega
end Go.Proofs.YtbkjmefhenpmlaaGreatDoor.Den
/- Pure laws: a block given back; how many are free. -/
namespace Go.Proofs.YtbkjmefhenpmlaaGreatDoor.Den
open Go
set_option linter.unusedVariables false
set_option linter.unusedSimpArgs false
set_option maxRecDepth 100000
def giveP (s : Span) (i : Int) : Prop := (s.1 = 1 ∨ s.1 = 2) ∧ 0 ≤ i ∧ i < cb s.2.1 ∧ bit s.2.2.1 i.toNat = false
end Go.Proofs.YtbkjmefhenpmlaaGreatDoor.Den
/- Pure laws: how many numbers a mask has. -/
namespace Go.Proofs.YtbkjmefhenpmlaaGreatDoor.Den
open Go
set_option linter.unusedVariables false
set_option linter.unusedSimpArgs false
set_option maxRecDepth 100000
def pcn : Nat → Nat → Nat
 | 0, _ => 0
 | n + 1, m => m % 2 + pcn n (m / 2)
end Go.Proofs.YtbkjmefhenpmlaaGreatDoor.Den
/- Pure laws: the program's look at a heap's form. -/
namespace Go.Proofs.YtbkjmefhenpmlaaGreatDoor.Den
open Go
set_option linter.unusedVariables false
set_option linter.unusedSimpArgs false
set_option maxRecDepth 100000
theorem heapForm_eq {h : Heap} (g : Good cHeap h) (hs : h.2.1.length ≤ 20) : heap_Form (h, ()) = some (formB h, ()) := by
 have key : ∃ l, heap_Form_l0 (h.2.1, (h.2.1.length : Int), 0, h, ()) = some l ∧ ((h.2.1.all rightB = true ∧ l = .out (h, ())) ∨ (h.2.1.all rightB = false ∧ ∃ i : Nat, l = .ret ((i : Int), h, ()))) := by
  unfold heap_Form_l0
  refine iterL_rule (fun n x => ∃ i : Nat, i ≤ h.2.1.length ∧ n = h.2.1.length - i ∧ x = (h.2.1, (h.2.1.length : Int), (i : Int), h, ()) ∧ ∀ j (hj' : j < h.2.1.length), j < i → rightB h.2.1[j] = true) ?_ _ h.2.1.length _ (by omega) ⟨0, by omega, rfl, rfl, fun j _ hj => by omega⟩
  rintro n x ⟨i, i2, rfl, rfl, hi⟩
  simp only [heap_Form_s0, heap_Form_s0r, heap_Form_1, heap_Form_1_r, Bool.cond_decide]
  by_cases hn : i < h.2.1.length
  ·rw [if_pos (by omega), if_pos (by omega), if_pos (by omega), Int.toNat_natCast, get_d _ _ _ hn]
   obtain ⟨b0, b1⟩ := good_span g (List.getElem_mem hn)
   rw [spanRight_eq _ b0 b1]
   simp only [Option.bind_some, condn]
   cases hr : rightB h.2.1[i] with
   | true =>
    refine .inl ⟨h.2.1.length - (i + 1), (h.2.1, (h.2.1.length : Int), ((i + 1 : Nat) : Int), h, ()), by omega, ?_, i + 1, by omega, by omega, rfl, fun j j1 j2 => ?_⟩
    ·rw [wi64_id (by omega) (by omega)]; rfl
    ·by_cases e : j = i
     ·subst e; exact hr
     ·exact hi j j1 (by omega)
   | false =>
    refine .inr ⟨_, rfl, .inr ⟨?_, i, rfl⟩⟩
    cases ha : h.2.1.all rightB
    ·rfl
    ·have := List.all_eq_true.1 ha _ (List.getElem_mem hn)
     rw [hr] at this; cases this
  ·rw [if_neg (by omega)]
   refine .inr ⟨_, rfl, .inl ⟨?_, rfl⟩⟩
   rw [List.all_eq_true]
   intro s hs
   obtain ⟨j, hj, rfl⟩ := List.mem_iff_getElem.1 hs
   exact hi j hj (by omega)
 obtain ⟨l, e, hl⟩ := key
 simp only [heap_Form, heap_Form_r, e, Option.bind_some]
 rcases hl with ⟨ha, rfl⟩ | ⟨ha, i, rfl⟩
 ·simp only [Bool.cond_decide, formB, ha, Bool.and_true, ibeq]
  rw [wi64_id (by omega) (by omega)]
  by_cases h1 : (h.2.1.length : Int) ≥ 1
  ·rw [if_pos h1]
   by_cases h2 : (h.2.1.length : Int) ≤ 16
   ·rw [if_pos h2]
    congr 2
    rw [decide_eq_decide]; omega
   ·rw [if_neg h2, decide_eq_false (by omega)]
  ·rw [if_neg h1, decide_eq_false (by omega)]
 ·have : (decide ((i : Int) ≥ 0)) = true := decide_eq_true (by omega)
  simp only [this, Bool.not_true, cond_false, formB, ha, Bool.and_false]
def us1 (s : Span) : Int := if s.1 = 0 then 0 else (cb s.2.1 - pcn 32 s.2.2.1.toNat) * cw s.2.1
def usN (h : Heap) : Nat → Int
 | 0 => 0
 | n + 1 => usN h n + us1 (h.2.1.getD n sz)
def FreeP (h : Heap) : Prop := ∀ s : Span, s ∈ h.2.1 → 0 ≤ s.2.2.1
end Go.Proofs.YtbkjmefhenpmlaaGreatDoor.Den
/- Pure laws: a page opened, closed; a block freed, an object laid. -/
namespace Go.Proofs.YtbkjmefhenpmlaaGreatDoor.Den
open Go
set_option linter.unusedVariables false
set_option linter.unusedSimpArgs false
set_option maxRecDepth 100000
def spanAt (h : Heap) (p : Int) : Span := h.2.1.getD p.toNat sz
def inP (h : Heap) (p : Int) : Prop := 0 ≤ p ∧ p < h.2.1.length
theorem inP.nat {h : Heap} {p : Int} (i : inP h p) : ∃ n : Nat, p = n ∧ n < h.2.1.length ∧ spanAt h p = h.2.1.getD n sz := by
 obtain ⟨i0, i1⟩ := i
 exact ⟨p.toNat, by omega, by omega, rfl⟩
theorem inP.mem {h : Heap} {p : Int} (i : inP h p) : spanAt h p ∈ h.2.1 := by
 obtain ⟨n, rfl, hn, e⟩ := i.nat
 rw [e, get_d _ _ _ hn]; exact List.getElem_mem hn
def setSp (h : Heap) (p : Int) (s : Span) : Heap := (h.1, h.2.1.set p.toNat s, h.2.2)
def xr (m : Int) (i : Nat) : Int := ((m.toNat ^^^ 2 ^ i : Nat) : Int)
theorem xr_nat (m i : Nat) : xr (m : Int) i = ((m ^^^ 2 ^ i : Nat) : Int) := rfl
theorem xr_nonneg (m : Int) (i : Nat) : 0 ≤ xr m i := Int.natCast_nonneg _
theorem xr_bit {m : Int} (h0 : 0 ≤ m) (i j : Nat) : bit (xr m i) j = if j = i then !bit m j else bit m j := by
 obtain ⟨m, rfl⟩ := Int.eq_ofNat_of_zero_le h0
 rw [xr_nat, bit_test, bit_test, Nat.testBit_xor, bit_two]
 by_cases e : j = i
 ·subst e; simp
 ·rw [if_neg e, decide_eq_false (fun h => e h.symm), Bool.xor_false]
theorem xr_lt {m : Int} (h0 : 0 ≤ m) {i k : Nat} (hm : m < 2 ^ k) (hi : i < k) : xr m i < 2 ^ k := by
 obtain ⟨m, rfl⟩ := Int.eq_ofNat_of_zero_le h0
 rw [xr_nat]
 rw [pow_cast] at hm ⊢
 have h1 : m < 2 ^ k := Int.ofNat_lt.1 hm
 exact Int.ofNat_lt.2 (Nat.xor_lt_two_pow h1 (Nat.pow_lt_pow_right (by decide) hi))
def opened (h : Heap) (p c : Int) : Heap := setSp h p (1, c, 2 ^ (cb c).toNat - 1, ())
theorem right_use {s : Span} (hr : rightB s = true) (hu : s.1 ≠ 0) : (s.1 = 1 ∨ s.1 = 2) ∧ 0 ≤ s.2.1 ∧ s.2.1 ≤ 3 ∧ s.2.2.1 < 2 ^ (cb s.2.1).toNat := by
 simpa only [rightB, if_neg hu, decide_eq_true_eq] using hr
theorem setSp_form {h : Heap} (f : FormP h) (p : Int) {s : Span} (hr : rightB s = true) : FormP (setSp h p s) where
 n1 := by show 1 ≤ (h.2.1.set _ _).length; rw [List.length_set]; exact f.n1
 n16 := by show (h.2.1.set _ _).length ≤ _; rw [List.length_set]; exact f.n16
 len := by show h.1.length = 32 * (h.2.1.set _ _).length; rw [List.length_set]; exact f.len
 right := fun x hx => by
  rcases List.mem_or_eq_of_mem_set hx with h | rfl
  ·exact f.right _ h
  ·exact hr
 word := f.word
theorem setSp_free {h : Heap} (hf : FreeP h) (p : Int) {s : Span} (h0 : 0 ≤ s.2.2.1) : FreeP (setSp h p s) := fun x hx => by
 rcases List.mem_or_eq_of_mem_set hx with h | rfl
 ·exact hf _ h
 ·exact h0
end Go.Proofs.YtbkjmefhenpmlaaGreatDoor.Den
/- Pure laws: a block freed, an object laid. -/
namespace Go.Proofs.YtbkjmefhenpmlaaGreatDoor.Den
open Go
set_option linter.unusedVariables false
set_option linter.unusedSimpArgs false
set_option maxRecDepth 100000
def zer (ws : List Int) (a k : Nat) : List Int := segSet ws a (List.replicate k 0)
theorem zer_len {ws : List Int} {a k : Nat} (h : a + k ≤ ws.length) : (zer ws a k).length = ws.length := seg_len (by simpa using h)
theorem zer_get {ws : List Int} {a k : Nat} (h : a + k ≤ ws.length) (j : Nat) : (zer ws a k)[j]? = if a ≤ j ∧ j < a + k then some 0 else ws[j]? := by
 rw [zer, seg_get (by simpa using h), List.length_replicate]
 by_cases e : a ≤ j ∧ j < a + k
 ·rw [if_pos e, if_pos e, List.getElem?_replicate, if_pos (by omega)]
 ·rw [if_neg e, if_neg e]
def blkI (h : Heap) (a : Int) : Int := a % 32 / cw (spanOf h a).2.1
def freeP (h : Heap) (a : Int) : Prop := fndB h a = true ∧ giveP (spanOf h a) (blkI h a)
def freed (h : Heap) (a : Int) : Heap :=
 (zer h.1 a.toNat (cw (spanOf h a).2.1).toNat, h.2.1.set (a / 32).toNat ((spanOf h a).1, (spanOf h a).2.1, xr (spanOf h a).2.2.1 (blkI h a).toNat, ()), h.2.2)
theorem fnd_page {h : Heap} {a : Int} (hb : fndB h a = true) : inP h (a / 32) ∧ spanAt h (a / 32) = spanOf h a := by
 have := fndB_rng hb
 exact ⟨⟨by omega, by omega⟩, rfl⟩
theorem fnd_room {h : Heap} (f : FormP h) {a : Int} (hb : fndB h a = true) : (0 ≤ (spanOf h a).2.1 ∧ (spanOf h a).2.1 ≤ 3) ∧ 0 ≤ a ∧ a + cw (spanOf h a).2.1 ≤ h.1.length := by
 have h1 := fndB_rng hb
 have hl := f.len
 have hb' := hb
 simp only [fndB, decide_eq_true_eq] at hb'
 have hc := f.spanAt h1.1 h1.2 hb'.2.2.1
 refine ⟨hc, h1.1, ?_⟩
 rcases class4 hc.1 hc.2 with ⟨e, _⟩ | ⟨e, _⟩ | ⟨e, _⟩ | ⟨e, _⟩ <;> rw [e] at hb' ⊢ <;> omega
def hword (c : Int) (col : Bool) (n : Int) : Int := 128 + 16 * c + n + (bif col then 64 else 0)
def layA (h : Heap) (p : Int) (i : Nat) : Int := 32 * p + i * cw (spanAt h p).2.1
def laid (h : Heap) (p : Int) (i : Nat) (n : Int) : Heap :=
 ((zer h.1 (layA h p i).toNat (cw (spanAt h p).2.1).toNat).set (layA h p i).toNat (hword (spanAt h p).2.1 h.2.2.1 n), h.2.1.set p.toNat ((spanAt h p).1, (spanAt h p).2.1, xr (spanAt h p).2.2.1 i, ()), h.2.2)
theorem getD_set_self {α : Type} {l : List α} {n : Nat} (hn : n < l.length) (x z : α) : (l.set n x).getD n z = x := by
 rw [get_d _ _ _ (by rw [List.length_set]; exact hn), List.getElem_set_self]
end Go.Proofs.YtbkjmefhenpmlaaGreatDoor.Den
/- Pure laws: alike. -/
namespace Go.Proofs.YtbkjmefhenpmlaaGreatDoor.Den
open Go
set_option linter.unusedVariables false
set_option linter.unusedSimpArgs false
set_option maxRecDepth 100000
theorem list_eq_of {α : Type} {a b : List α} (hl : a.length = b.length) (h : ∀ j (ha : j < a.length) (hb : j < b.length), a[j] = b[j]) : a = b :=
 List.ext_getElem hl h
theorem same5_eq (a b : List Int) (ha : a.length < 9223372036854775807) : r05_Same (a, b, ()) = some (decide (a = b), ()) := by
 simp only [r05_Same, r05_Same_r, ibne, Bool.cond_decide]
 by_cases hl : a.length = b.length
 ·rw [if_neg (by omega)]
  have key : ∃ l, r05_Same_l0 (a, b, 0, ()) = some l ∧ l = (if a = b then .out () else .ret (false, ())) := by
   unfold r05_Same_l0
   refine iterL_rule (fun n x => ∃ i : Nat, i ≤ a.length ∧ n = a.length - i ∧ x = (a, b, (i : Int), ()) ∧ ∀ j (h1 : j < a.length) (h2 : j < b.length), j < i → a[j] = b[j]) ?_ _ a.length _ (by omega) ⟨0, by omega, rfl, rfl, fun j _ _ hj => by omega⟩
   rintro n x ⟨i, i1, rfl, rfl, hi⟩
   simp only [r05_Same_s0, r05_Same_s0r, Bool.cond_decide, ibne]
   by_cases hn : i < a.length
   ·rw [if_pos (by omega), if_pos (by omega), if_pos (by omega), if_pos (by omega), if_pos (by omega), Int.toNat_natCast, get_d _ _ _ hn, get_d _ _ _ (by omega : i < b.length)]
    by_cases e : a[i] = b[i]
    ·rw [if_neg (by simpa using e), wi64_id (by omega) (by omega)]
     refine .inl ⟨a.length - (i + 1), (a, b, ((i + 1 : Nat) : Int), ()), by omega, rfl, i + 1, by omega, rfl, rfl, fun j h1 h2 h3 => ?_⟩
     by_cases e' : j = i
     ·subst e'; exact e
     ·exact hi j h1 h2 (by omega)
    ·rw [if_pos e]
     refine .inr ⟨_, rfl, ?_⟩
     rw [if_neg]
     intro h; subst h; exact e rfl
   ·rw [if_neg (by omega)]
    refine .inr ⟨_, rfl, ?_⟩
    rw [if_pos (list_eq_of hl fun j h1 h2 => hi j h1 h2 (by omega))]
  obtain ⟨l, e, rfl⟩ := key
  rw [e]
  by_cases h : a = b
  ·simp [h]
  ·simp [h]
 ·rw [if_pos (by omega)]
  have : a ≠ b := fun h => hl (by rw [h])
  simp [this]
theorem same7_eq (a b : Heap) (ha : a.1.length < 9223372036854775807) (hs : a.2.1.length < 9223372036854775807) : r07_Same (a, b, ()) = some (decide (a.2.2.1 = b.2.2.1 ∧ a.2.1 = b.2.1 ∧ a.1 = b.1), ()) := by
 simp only [r07_Same, r07_Same_r, ibne, Bool.cond_decide, same5_eq _ _ ha, Option.bind_some, condn]
 by_cases hb : a.2.2.1 = b.2.2.1
 rotate_left
 ·have : (a.2.2.1 == b.2.2.1) = false := by simpa using hb
  simp [this, hb]
 simp only [hb, beq_self_eq_true, cond_true, true_and]
 by_cases hl : a.2.1.length = b.2.1.length
 rotate_left
 ·rw [if_pos (by omega)]
  have : a.2.1 ≠ b.2.1 := fun h => hl (by rw [h])
  simp [this]
 rw [if_neg (by omega)]
 by_cases hw : a.1 = b.1
 rotate_left
 ·simp [hw]
 have key : ∃ l, r07_Same_l0 (0, a, b, ()) = some l ∧ l = (if a.2.1 = b.2.1 then .out () else .ret (false, ())) := by
  unfold r07_Same_l0
  refine iterL_rule (fun n x => ∃ i : Nat, i ≤ a.2.1.length ∧ n = a.2.1.length - i ∧ x = ((i : Int), a, b, ()) ∧ ∀ j (h1 : j < a.2.1.length) (h2 : j < b.2.1.length), j < i → a.2.1[j] = b.2.1[j]) ?_ _ a.2.1.length _ (by omega) ⟨0, by omega, rfl, rfl, fun j _ _ hj => by omega⟩
  rintro n x ⟨i, i1, rfl, rfl, hi⟩
  simp only [r07_Same_s0, r07_Same_s0r, Bool.cond_decide, condn]
  by_cases hn : i < a.2.1.length
  ·rw [if_pos (by omega), if_pos (by omega), if_pos (by omega), if_pos (by omega), if_pos (by omega), Int.toNat_natCast, get_d _ _ _ hn, get_d _ _ _ (by omega : i < b.2.1.length)]
   have hcmp : ((a.2.1[i].1 == b.2.1[i].1) && ((a.2.1[i].2.1 == b.2.1[i].2.1) && ((a.2.1[i].2.2.1 == b.2.1[i].2.2.1) && true))) = decide (a.2.1[i] = b.2.1[i]) := by
    simp only [Bool.and_true]
    rw [Bool.eq_iff_iff]
    simp only [Bool.and_eq_true, beq_iff_eq, decide_eq_true_eq]
    constructor
    ·rintro ⟨h1, h2, h3⟩
     exact Prod.ext h1 (Prod.ext h2 (Prod.ext h3 rfl))
    ·intro h; rw [h]; exact ⟨rfl, rfl, rfl⟩
   rw [hcmp, Bool.cond_decide]
   by_cases e : a.2.1[i] = b.2.1[i]
   ·rw [if_pos e, wi64_id (by omega) (by omega)]
    refine .inl ⟨a.2.1.length - (i + 1), (((i + 1 : Nat) : Int), a, b, ()), by omega, rfl, i + 1, by omega, rfl, rfl, fun j h1 h2 h3 => ?_⟩
    by_cases e' : j = i
    ·subst e'; exact e
    ·exact hi j h1 h2 (by omega)
   ·rw [if_neg e]
    refine .inr ⟨_, rfl, ?_⟩
    rw [if_neg]
    intro h
    apply e
    simp only [h]
  ·rw [if_neg (by omega)]
   refine .inr ⟨_, rfl, ?_⟩
   rw [if_pos (list_eq_of hl fun j h1 h2 => hi j h1 h2 (by omega))]
 obtain ⟨l, e, rfl⟩ := key
 rw [e]
 by_cases h : a.2.1 = b.2.1
 ·simp [hw, h]
 ·simp [hw, h]
end Go.Proofs.YtbkjmefhenpmlaaGreatDoor.Den
/- Pure laws: the heap keeps its form; the program does as the reference. -/
namespace Go.Proofs.YtbkjmefhenpmlaaGreatDoor.Den
open Go
set_option linter.unusedVariables false
set_option linter.unusedSimpArgs false
set_option maxRecDepth 100000
structure HP (h : Heap) : Prop where
 f : FormP h
 fr : FreeP h
def WP (ws : List Int) : Prop := ∀ w ∈ ws, (0 : Int) ≤ w ∧ w < 18446744073709551616
theorem wp_zer {ws : List Int} (hw : WP ws) (a k : Nat) : WP (zer ws a k) := by
 intro w hm
 simp only [zer, segSet, List.mem_append] at hm
 rcases hm with (hm | hm) | hm
 ·exact hw w (List.mem_of_mem_take hm)
 ·rw [(List.mem_replicate.1 hm).2]; omega
 ·exact hw w (List.mem_of_mem_drop hm)
theorem wp_set {ws : List Int} (hw : WP ws) (a : Nat) {v : Int} (h0 : 0 ≤ v) (h1 : v < 18446744073709551616) : WP (ws.set a v) := by
 intro w hm
 rcases List.mem_or_eq_of_mem_set hm with h | rfl
 ·exact hw w h
 ·exact ⟨h0, h1⟩
theorem hp_words {h : Heap} (q : HP h) {ws : List Int} (hw : WP ws) (hl : ws.length = h.1.length) : HP (ws, h.2.1, h.2.2) :=
 ⟨⟨q.f.n1, q.f.n16, by show ws.length = _; rw [hl]; exact q.f.len, q.f.right, hw⟩, q.fr⟩
theorem hp_setSp {h : Heap} (q : HP h) (p : Int) {s : Span} (hr : rightB s = true) (h0 : 0 ≤ s.2.2.1) : HP (setSp h p s) := ⟨setSp_form q.f p hr, setSp_free q.fr p h0⟩
theorem right_sz : rightB sz = true := by kernel_rfl
theorem right_xr {s : Span} (hr : rightB s = true) (h0 : 0 ≤ s.2.2.1) (hu : s.1 ≠ 0) {i : Nat} (hi : (i : Int) < cb s.2.1) : rightB (s.1, s.2.1, xr s.2.2.1 i, ()) = true := by
 obtain ⟨a, b, c, d⟩ := right_use hr hu
 simp only [rightB]
 rw [if_neg hu]
 exact decide_eq_true ⟨a, b, c, xr_lt h0 d (by omega)⟩
theorem freed_hp {h : Heap} (q : HP h) {a : Int} (i : freeP h a) : HP (freed h a) := by
 obtain ⟨hb, hg⟩ := i
 obtain ⟨ip, es⟩ := fnd_page hb
 have hr := fnd_room q.f hb
 have hc := cw_le (spanOf h a).2.1
 have hR := q.f.right _ ip.mem
 have h0 := q.fr _ ip.mem
 rw [es] at hR h0
 have hu : (spanOf h a).1 ≠ 0 := by have := hg.1; omega
 have := hp_words (hp_setSp q (a / 32) (right_xr hR h0 hu (i := (blkI h a).toNat) (by have := hg.2.1; have := hg.2.2.1; omega)) (xr_nonneg _ _)) (ws := zer h.1 a.toNat (cw (spanOf h a).2.1).toNat) (wp_zer q.f.word _ _) (zer_len (by omega))
 exact this
end Go.Proofs.YtbkjmefhenpmlaaGreatDoor.Den
/- Pure laws: caches: what stands in one, whether they are right. -/
namespace Go.Proofs.YtbkjmefhenpmlaaGreatDoor.Den
open Go
set_option linter.unusedVariables false
set_option linter.unusedSimpArgs false
set_option maxRecDepth 100000
theorem contains_eq (l : List Int) (hl : l.length ≤ 4611686018427387904) (p : Int) : slices_Contains (l, p, ()) = some (decide (p ∈ l), ()) := by
 have hr : ∃ e, slices_Index_l0 (l, p, (l.length : Int), 0, ()) = some e ∧ ((e = .out () ∧ p ∉ l) ∨ ∃ v : Int, 0 ≤ v ∧ e = .ret (v, ()) ∧ p ∈ l) := by
  unfold slices_Index_l0
  refine iterL_rule (fun n x => ∃ i : Nat, i ≤ l.length ∧ n = l.length - i ∧ x = (l, p, (l.length : Int), (i : Int), ()) ∧ ∀ j (h : j < l.length), j < i → l[j] ≠ p) ?_ _ l.length _ (by omega) ⟨0, by omega, by omega, rfl, fun j _ h => by omega⟩
  rintro n x ⟨i, hi, rfl, rfl, hn⟩
  simp only [slices_Index_s0, slices_Index_s0r, Bool.cond_decide, ibeq, Int.toNat_natCast]
  by_cases h : i < l.length
  ·rw [if_pos (by omega), if_pos (by omega), if_pos (by omega), get_d _ _ _ h]
   by_cases e : p = l[i]
   ·rw [if_pos e]
    exact .inr ⟨_, rfl, .inr ⟨i, by omega, rfl, by rw [e]; exact List.getElem_mem h⟩⟩
   ·rw [if_neg e, wi64_id (by omega) (by omega)]
    refine .inl ⟨l.length - (i + 1), _, by omega, rfl, i + 1, by omega, rfl, rfl, fun j hj hlt => ?_⟩
    rcases Nat.lt_succ_iff_lt_or_eq.1 hlt with h1 | rfl
    ·exact hn j hj h1
    ·exact fun e' => e e'.symm
  ·rw [if_neg (by omega)]
   refine .inr ⟨_, rfl, .inl ⟨rfl, fun hm => ?_⟩⟩
   obtain ⟨j, hj, e⟩ := List.getElem_of_mem hm
   exact hn j hj (by omega) e
 obtain ⟨e, h1, h2⟩ := hr
 simp only [slices_Contains, slices_Contains_r, slices_Index, slices_Index_r, h1, Option.bind_some]
 rcases h2 with ⟨rfl, h⟩ | ⟨v, hv, rfl, h⟩
 ·simp [h]
 ·simp [h]; omega
def Row4 (c : List (List Int)) : Prop := ∀ r ∈ c, r.length = 4
def z4 : List Int := List.replicate 4 0
def ent (c : List (List Int)) (i k : Nat) : Int := (c.getD i z4).getD k 0
def lin (c : List (List Int)) (t : Nat) : Int := ent c (t / 4) (t % 4)
theorem lin_at (c : List (List Int)) (i k : Nat) (hk : k < 4) : lin c (4 * i + k) = ent c i k := by
 unfold lin
 rw [show (4 * i + k) / 4 = i by omega, show (4 * i + k) % 4 = k by omega]
def keptP (c : List (List Int)) (p : Int) : Prop := ∃ r ∈ c, p ∈ r
instance (c : List (List Int)) (p : Int) : Decidable (keptP c p) := inferInstanceAs (Decidable (∃ r ∈ c, p ∈ r))
theorem kept_iff {c : List (List Int)} (h4 : Row4 c) (p : Int) : keptP c p ↔ ∃ i k, i < c.length ∧ k < 4 ∧ ent c i k = p := by
 constructor
 ·rintro ⟨r, hr, hp⟩
  obtain ⟨i, hi, rfl⟩ := List.getElem_of_mem hr
  obtain ⟨k, hk, e⟩ := List.getElem_of_mem hp
  have := h4 _ hr
  exact ⟨i, k, hi, by omega, by unfold ent; rw [get_d _ _ _ hi, get_d _ _ _ hk, e]⟩
 ·rintro ⟨i, k, hi, hk, e⟩
  have hr := List.getElem_mem hi
  have hl := h4 _ hr
  refine ⟨c[i], hr, ?_⟩
  unfold ent at e
  rw [get_d _ _ _ hi, get_d _ _ _ (by omega)] at e
  rw [← e]
  exact List.getElem_mem _
theorem kept_lin {c : List (List Int)} (h4 : Row4 c) (p : Int) : keptP c p ↔ ∃ t, t < 4 * c.length ∧ lin c t = p := by
 rw [kept_iff h4]
 constructor
 ·rintro ⟨i, k, hi, hk, e⟩
  exact ⟨4 * i + k, by omega, by rw [lin_at c i k hk]; exact e⟩
 ·rintro ⟨t, ht, e⟩
  exact ⟨t / 4, t % 4, by omega, by omega, e⟩
def valid (h : Heap) (p : Int) (k : Nat) : Prop := inP h p ∧ (spanAt h p).1 ≠ 0 ∧ (spanAt h p).2.1 = k
structure RightP (h : Heap) (c : List (List Int)) : Prop where
 v : ∀ t, t < 4 * c.length → lin c t = -1 ∨ valid h (lin c t) (t % 4)
 one : ∀ t u, t < 4 * c.length → u < 4 * c.length → lin c t ≠ -1 → lin c t = lin c u → t = u
structure RightTo (h : Heap) (c : List (List Int)) (n : Nat) (seen : List Int) : Prop where
 v : ∀ t, t < n → lin c t = -1 ∨ valid h (lin c t) (t % 4)
 one : ∀ t u, t < n → u < n → lin c t ≠ -1 → lin c t = lin c u → t = u
 mem : ∀ q, q ∈ seen ↔ q ≠ -1 ∧ ∃ t, t < n ∧ lin c t = q
 len : seen.length ≤ n
theorem RightTo.next {h : Heap} {c : List (List Int)} {n : Nat} {seen : List Int} (r : RightTo h c n seen) : (lin c n = -1 → RightTo h c (n + 1) seen) ∧
  (lin c n ≠ -1 → valid h (lin c n) (n % 4) → lin c n ∉ seen → RightTo h c (n + 1) (seen ++ [lin c n])) := by
 constructor
 ·intro e
  refine ⟨fun t ht => ?_, fun t u ht hu hne he => ?_, fun q => ?_, by have := r.len; omega⟩
  ·rcases Nat.lt_succ_iff_lt_or_eq.1 ht with h1 | rfl
   ·exact r.v t h1
   ·exact .inl e
  ·rcases Nat.lt_succ_iff_lt_or_eq.1 ht with h1 | rfl
   ·rcases Nat.lt_succ_iff_lt_or_eq.1 hu with h2 | rfl
    ·exact r.one t u h1 h2 hne he
    ·rw [he, e] at hne; exact absurd rfl hne
   ·exact absurd e hne
  ·rw [r.mem]
   refine and_congr_right fun hq => ⟨fun ⟨t, h1, h2⟩ => ⟨t, by omega, h2⟩, fun ⟨t, h1, h2⟩ => ?_⟩
   rcases Nat.lt_succ_iff_lt_or_eq.1 h1 with h1 | rfl
   ·exact ⟨t, h1, h2⟩
   ·exact absurd (h2.symm.trans e) hq
 ·intro hne hv hns
  have hnew : ∀ t, t < n → lin c t ≠ lin c n := fun t ht e => hns ((r.mem _).2 ⟨hne, t, ht, e⟩)
  refine ⟨fun t ht => ?_, fun t u ht hu hne he => ?_, fun q => ?_, by rw [List.length_append]; have := r.len; simp; omega⟩
  ·rcases Nat.lt_succ_iff_lt_or_eq.1 ht with h1 | rfl
   ·exact r.v t h1
   ·exact .inr hv
  ·rcases Nat.lt_succ_iff_lt_or_eq.1 ht with h1 | rfl
   ·rcases Nat.lt_succ_iff_lt_or_eq.1 hu with h2 | rfl
    ·exact r.one t u h1 h2 hne he
    ·exact absurd he (hnew t h1)
   ·rcases Nat.lt_succ_iff_lt_or_eq.1 hu with h2 | rfl
    ·exact absurd he.symm (hnew u h2)
    ·rfl
  ·rw [List.mem_append, r.mem]
   constructor
   ·rintro (⟨hq, t, h1, h2⟩ | h)
    ·exact ⟨hq, t, by omega, h2⟩
    ·rw [List.mem_singleton] at h
     exact ⟨by rw [h]; exact hne, n, by omega, h.symm⟩
   ·rintro ⟨hq, t, h1, h2⟩
    rcases Nat.lt_succ_iff_lt_or_eq.1 h1 with h1 | rfl
    ·exact .inl ⟨hq, t, h1, h2⟩
    ·exact .inr (by rw [List.mem_singleton]; exact h2.symm)
theorem RightTo.zero (h : Heap) (c : List (List Int)) : RightTo h c 0 [] := ⟨fun t ht => by omega, fun t u ht => by omega, fun q => by simp, by simp⟩
theorem takeRight_l0 {h : Heap} {c : List (List Int)} (hl : c.length ≤ 1000) (hp : h.2.1.length ≤ 16) (x1 x2 : Int) (L : List (List Int)) (i : Nat) (hi : i < c.length) {seen : List Int} (r : RightTo h c (4 * i) seen) :
  ∃ e, take_Right_l0 (L, x1, x2, c.getD i z4, 0, h, seen, ()) = some e ∧ ((∃ s, e = .out (L, x1, x2, h, s, ()) ∧ RightTo h c (4 * i + 4) s) ∨ (e = .ret (false, ()) ∧ ¬ RightP h c)) := by
 unfold take_Right_l0
 refine iterL_rule (fun n x => ∃ (k : Nat) (s : List Int), k ≤ 4 ∧ n = 4 - k ∧ x = (L, x1, x2, c.getD i z4, (k : Int), h, s, ()) ∧ RightTo h c (4 * i + k) s) ?_ _ 4 _ (by omega) ⟨0, seen, by omega, by omega, rfl, r⟩
 rintro n x ⟨k, s, hk, rfl, rfl, q⟩
 simp only [take_Right_s0, take_Right_s0r, Bool.cond_decide, ibeq, ibne, Int.toNat_natCast]
 by_cases h4 : k < 4
 ·rw [if_pos (by omega), if_pos (by omega), if_pos (by omega)]
  have el : lin c (4 * i + k) = ent c i k := lin_at c i k h4
  have em : (4 * i + k) % 4 = k := by omega
  have fin : ¬ (lin c (4 * i + k) = -1 ∨ valid h (lin c (4 * i + k)) k) → ¬ RightP h c := fun hn hr => by
   have := hr.v (4 * i + k) (by omega)
   rw [em] at this
   exact hn this
  rw [el] at fin
  have ev : (c.getD i z4).getD k 0 = ent c i k := rfl
  have es : h.2.1.getD (ent c i k).toNat sz = spanAt h (ent c i k) := rfl
  simp only [show ((0 : Int), (0 : Int), (0 : Int), ()) = sz from rfl, ev, es]
  by_cases e1 : ent c i k = -1
  ·rw [if_pos e1, wi64_id (by omega) (by omega)]
   exact .inl ⟨4 - (k + 1), _, by omega, rfl, k + 1, s, by omega, rfl, rfl, q.next.1 (el.trans e1)⟩
  rw [if_neg e1]
  by_cases e2 : ent c i k < 0
  ·rw [if_pos e2]
   exact .inr ⟨_, rfl, .inr ⟨rfl, fin (fun hv => by rcases hv with hv | hv; exact e1 hv; exact absurd hv.1.1 (by omega))⟩⟩
  rw [if_neg e2]
  by_cases e3 : ent c i k ≥ (h.2.1.length : Int)
  ·rw [if_pos e3]
   exact .inr ⟨_, rfl, .inr ⟨rfl, fin (fun hv => by rcases hv with hv | hv; exact e1 hv; exact absurd hv.1.2 (by omega))⟩⟩
  rw [if_neg e3, if_pos (by omega), if_pos (by omega)]
  by_cases e4 : (spanAt h (ent c i k)).1 = 0
  ·rw [if_pos e4]
   exact .inr ⟨_, rfl, .inr ⟨rfl, fin (fun hv => by rcases hv with hv | hv; exact e1 hv; exact hv.2.1 e4)⟩⟩
  rw [if_neg e4, if_pos (by omega), if_pos (by omega)]
  by_cases e5 : (spanAt h (ent c i k)).2.1 = (k : Int)
  ·rw [if_neg (by simpa using e5), contains_eq _ (by have := q.len; omega), Option.bind_some]
   dsimp only
   have hv : valid h (lin c (4 * i + k)) ((4 * i + k) % 4) := by rw [el, em]; exact ⟨⟨by omega, by omega⟩, e4, e5⟩
   by_cases e6 : ent c i k ∈ s
   ·simp only [decide_eq_true e6, cond_true]
    refine .inr ⟨_, rfl, .inr ⟨rfl, fun hr => ?_⟩⟩
    obtain ⟨hq, t, ht, e⟩ := (q.mem _).1 e6
    have := hr.one t (4 * i + k) (by omega) (by omega) (by rw [e]; exact hq) (by rw [e, el])
    omega
   ·simp only [decide_eq_false e6, cond_false]
    have := q.len
    rw [if_pos (by omega), wi64_id (by omega) (by omega)]
    have := q.next.2 (by rw [el]; exact e1) hv (by rw [el]; exact e6)
    rw [el] at this
    exact .inl ⟨4 - (k + 1), _, by omega, rfl, k + 1, _, by omega, rfl, rfl, this⟩
  ·rw [if_pos (by simpa using e5)]
   exact .inr ⟨_, rfl, .inr ⟨rfl, fin (fun hv => by rcases hv with hv | hv; exact e1 hv; exact e5 hv.2.2)⟩⟩
 ·obtain rfl : k = 4 := by omega
  rw [if_neg (by omega)]
  exact .inr ⟨_, rfl, .inl ⟨s, rfl, q⟩⟩
open Classical in
theorem takeRight_eq {h : Heap} {c : List (List Int)} (hl : c.length ≤ 1000) (hp : h.2.1.length ≤ 16) : take_Right (h, c, ()) = some (decide (RightP h c), ()) := by
 have hr : ∃ e, take_Right_l1 (c, (c.length : Int), 0, h, [], ()) = some e ∧ ((e = .out () ∧ RightP h c) ∨ (e = .ret (false, ()) ∧ ¬ RightP h c)) := by
  unfold take_Right_l1
  refine iterL_rule (fun n x => ∃ (i : Nat) (s : List Int), i ≤ c.length ∧ n = c.length - i ∧ x = (c, (c.length : Int), (i : Int), h, s, ()) ∧ RightTo h c (4 * i) s) ?_ _ c.length _ (by omega) ⟨0, [], by omega, by omega, rfl, RightTo.zero h c⟩
  rintro n x ⟨i, s, hi, rfl, rfl, q⟩
  simp only [take_Right_s1, take_Right_s1r, Bool.cond_decide, Int.toNat_natCast]
  by_cases hlt : i < c.length
  ·rw [if_pos (by omega), if_pos (by omega), if_pos (by omega)]
   obtain ⟨e, e1, e2⟩ := takeRight_l0 hl hp (c.length : Int) (i : Int) c i hlt q
   rw [show List.replicate 4 (0 : Int) = z4 from rfl, e1, Option.bind_some]
   rcases e2 with ⟨s', rfl, q'⟩ | ⟨rfl, hn⟩
   ·dsimp only
    rw [wi64_id (by omega) (by omega)]
    exact .inl ⟨c.length - (i + 1), _, by omega, rfl, i + 1, s', by omega, rfl, rfl, q'⟩
   ·exact .inr ⟨_, rfl, .inr ⟨rfl, hn⟩⟩
  ·rw [if_neg (by omega)]
   obtain rfl : i = c.length := by omega
   exact .inr ⟨_, rfl, .inl ⟨rfl, q.v, q.one⟩⟩
 obtain ⟨e, h1, h2⟩ := hr
 simp only [take_Right, take_Right_r, h1, Option.bind_some]
 rcases h2 with ⟨rfl, h⟩ | ⟨rfl, h⟩
 ·rw [decide_eq_true h]
 ·rw [decide_eq_false h]
def cntK (c : List (List Int)) (p : Int) : Nat → Int
 | 0 => 0
 | t + 1 => cntK c p t + if lin c t = p then 1 else 0
theorem cntK_rng (c : List (List Int)) (p : Int) : ∀ n, 0 ≤ cntK c p n ∧ cntK c p n ≤ n
 | 0 => by simp [cntK]
 | n + 1 => by
  have := cntK_rng c p n
  simp only [cntK]
  split <;> omega
theorem cntK_zero {c : List (List Int)} {p : Int} : ∀ {n}, cntK c p n = 0 ↔ ∀ t, t < n → lin c t ≠ p
 | 0 => by simp [cntK]
 | n + 1 => by
  have h1 := cntK_zero (c := c) (p := p) (n := n)
  have h2 := cntK_rng c p n
  simp only [cntK]
  constructor
  ·intro h t ht
   split at h
   ·omega
   ·rename_i hne
    rcases Nat.lt_succ_iff_lt_or_eq.1 ht with ht | rfl
    ·exact h1.1 (by omega) t ht
    ·exact hne
  ·intro h
   rw [if_neg (h n (by omega)), h1.2 (fun t ht => h t (by omega))]
   rfl
theorem cntK_one {c : List (List Int)} {p : Int} : ∀ {n t}, t < n → lin c t = p → (cntK c p n = 1 ↔ ∀ u, u < n → lin c u = p → u = t)
 | n + 1, t, ht, e => by
  have h2 := cntK_rng c p n
  simp only [cntK]
  rcases Nat.lt_succ_iff_lt_or_eq.1 ht with ht | rfl
  ·have ih := cntK_one (c := c) (p := p) (n := n) ht e
   constructor
   ·intro h u hu eu
    rcases Nat.lt_succ_iff_lt_or_eq.1 hu with hu | rfl
    ·by_cases hn : lin c n = p
     ·rw [if_pos hn] at h
      exact absurd e (cntK_zero.1 (show cntK c p n = 0 by omega) t ht)
     ·rw [if_neg hn] at h
      exact ih.1 (by omega) u hu eu
    ·rw [if_pos eu] at h
     exact absurd e (cntK_zero.1 (show cntK c p u = 0 by omega) t ht)
   ·intro h
    have hn : ¬ lin c n = p := fun hn => by have := h n (by omega) hn; omega
    rw [if_neg hn, ih.2 (fun u hu eu => h u (by omega) eu)]
    rfl
  ·rw [if_pos e]
   constructor
   ·intro h u hu eu
    rcases Nat.lt_succ_iff_lt_or_eq.1 hu with hu | rfl
    ·exact absurd eu (cntK_zero.1 (show cntK c p t = 0 by omega) u hu)
    ·rfl
   ·intro h
    rw [cntK_zero.2 (fun u hu eu => by have := h u (by omega) eu; omega)]
    rfl
theorem right11_l0 {h : Heap} {c : List (List Int)} (hl : c.length ≤ 1000) (x1 x2 p : Int) (j : Nat) (hj : j < c.length) :
  r11_Right_l0 (c, x1, x2, p, cntK c p (4 * j), (j : Int), 0, h, ()) = some (.out (c, x1, x2, p, cntK c p (4 * j + 4), (j : Int), h, ())) := by
 unfold r11_Right_l0
 refine iterL_run 4 (fun m => (c, x1, x2, p, cntK c p (4 * j + m), (j : Int), (m : Int), h, ())) (fun m hm => ?_) ?_ (by omega) rfl
 ·simp only [r11_Right_s0, r11_Right_s0r, Bool.cond_decide, ibeq, Int.toNat_natCast]
  rw [if_pos (by omega), if_pos (by omega), if_pos (by omega), if_pos (by omega), if_pos (by omega)]
  have hc := cntK_rng c p (4 * j + m)
  have e : cntK c p (4 * j + (m + 1)) = cntK c p (4 * j + m) + if ent c j m = p then 1 else 0 := by
   rw [← Nat.add_assoc]
   simp only [cntK]
   rw [lin_at c j m hm]
  change (if ent c j m = p then _ else _) = _
  rw [e]
  by_cases hp : ent c j m = p
  ·rw [if_pos hp, if_pos hp, wi64_id (by omega) (by omega), wi64_id (by omega) (by omega)]; rfl
  ·rw [if_neg hp, if_neg hp, wi64_id (by omega) (by omega), Int.add_zero]; rfl
 ·simp only [r11_Right_s0, r11_Right_s0r, Bool.cond_decide]
  rw [if_neg (by omega)]
theorem right11_l1 {h : Heap} {c : List (List Int)} (hl : c.length ≤ 1000) (x1 x2 p : Int) :
  r11_Right_l1 (c, x1, x2, p, 0, 0, h, ()) = some (.out (c, x1, x2, cntK c p (4 * c.length), h, ())) := by
 unfold r11_Right_l1
 refine iterL_run c.length (fun j => (c, x1, x2, p, cntK c p (4 * j), (j : Int), h, ())) (fun j hj => ?_) ?_ (by omega) rfl
 ·simp only [r11_Right_s1, r11_Right_s1r, Bool.cond_decide]
  rw [if_pos (by omega), right11_l0 hl x1 x2 p j hj, Option.bind_some]
  dsimp only
  rw [wi64_id (by omega) (by omega)]; rfl
 ·simp only [r11_Right_s1, r11_Right_s1r, Bool.cond_decide]
  rw [if_neg (by omega)]
def okAt (h : Heap) (c : List (List Int)) (t : Nat) : Prop := lin c t = -1 ∨ (valid h (lin c t) (t % 4) ∧ ∀ u, u < 4 * c.length → lin c u = lin c t → u = t)
theorem right_okAt {h : Heap} {c : List (List Int)} : RightP h c ↔ ∀ t, t < 4 * c.length → okAt h c t := by
 constructor
 ·intro r t ht
  rcases r.v t ht with e | e
  ·exact .inl e
  ·by_cases hne : lin c t = -1
   ·exact .inl hne
   ·exact .inr ⟨e, fun u hu eu => (r.one t u ht hu hne eu.symm).symm⟩
 ·intro r
  refine ⟨fun t ht => (r t ht).imp id (·.1), fun t u ht hu hne e => ?_⟩
  rcases r t ht with h1 | h1
  ·exact absurd h1 hne
  ·exact (h1.2 u hu e.symm).symm
theorem right11_l2 {h : Heap} {c : List (List Int)} (hl : c.length ≤ 1000) (hp : h.2.1.length ≤ 16) (i : Nat) (hi : i < c.length) (q0 : ∀ t, t < 4 * i → okAt h c t) :
  ∃ e, r11_Right_l2 (c, (i : Int), 0, h, ()) = some e ∧ ((e = .out (c, (i : Int), h, ()) ∧ ∀ t, t < 4 * i + 4 → okAt h c t) ∨ (e = .ret (false, ()) ∧ ¬ RightP h c)) := by
 unfold r11_Right_l2
 refine iterL_rule (fun n x => ∃ (k : Nat), k ≤ 4 ∧ n = 4 - k ∧ x = (c, (i : Int), (k : Int), h, ()) ∧ ∀ t, t < 4 * i + k → okAt h c t) ?_ _ 4 _ (by omega) ⟨0, by omega, by omega, rfl, q0⟩
 rintro n x ⟨k, hk, rfl, rfl, q⟩
 simp only [r11_Right_s2, r11_Right_s2r, Bool.cond_decide, ibeq, ibne, Int.toNat_natCast]
 by_cases h4 : k < 4
 ·rw [if_pos (by omega), if_pos (by omega), if_pos (by omega), if_pos (by omega), if_pos (by omega)]
  have el : lin c (4 * i + k) = ent c i k := lin_at c i k h4
  have em : (4 * i + k) % 4 = k := by omega
  have fin : ¬ okAt h c (4 * i + k) → ¬ RightP h c := fun hn hr => hn (right_okAt.1 hr _ (by omega))
  have nx : okAt h c (4 * i + k) → ∀ t, t < 4 * i + (k + 1) → okAt h c t := fun ho t ht => by
   rcases Nat.lt_succ_iff_lt_or_eq.1 (show t < (4 * i + k) + 1 by omega) with h1 | rfl
   ·exact q t h1
   ·exact ho
  have ev : (c.getD i (List.replicate 4 0)).getD k 0 = ent c i k := rfl
  have es : h.2.1.getD (ent c i k).toNat sz = spanAt h (ent c i k) := rfl
  simp only [show ((0 : Int), (0 : Int), (0 : Int), ()) = sz from rfl, ev, es]
  unfold okAt at fin nx
  rw [el, em] at fin nx
  by_cases e1 : ent c i k = -1
  ·rw [if_pos e1, wi64_id (by omega) (by omega)]
   exact .inl ⟨4 - (k + 1), _, by omega, rfl, k + 1, by omega, rfl, rfl, nx (.inl e1)⟩
  rw [if_neg e1]
  by_cases e2 : ent c i k < 0
  ·rw [if_pos e2]
   exact .inr ⟨_, rfl, .inr ⟨rfl, fin (fun hv => by rcases hv with hv | hv; exact e1 hv; exact absurd hv.1.1.1 (by omega))⟩⟩
  rw [if_neg e2]
  by_cases e3 : ent c i k ≥ (h.2.1.length : Int)
  ·rw [if_pos e3]
   exact .inr ⟨_, rfl, .inr ⟨rfl, fin (fun hv => by rcases hv with hv | hv; exact e1 hv; exact absurd hv.1.1.2 (by omega))⟩⟩
  rw [if_neg e3, if_pos (by omega), if_pos (by omega)]
  by_cases e4 : (spanAt h (ent c i k)).1 = 0
  ·rw [if_pos e4]
   exact .inr ⟨_, rfl, .inr ⟨rfl, fin (fun hv => by rcases hv with hv | hv; exact e1 hv; exact hv.1.2.1 e4)⟩⟩
  rw [if_neg e4, if_pos (by omega), if_pos (by omega)]
  by_cases e5 : (spanAt h (ent c i k)).2.1 = (k : Int)
  ·rw [if_neg (by simpa using e5), right11_l1 hl, Option.bind_some]
   dsimp only
   have hone := cntK_one (c := c) (p := ent c i k) (n := 4 * c.length) (t := 4 * i + k) (by omega) el
   by_cases e6 : cntK c (ent c i k) (4 * c.length) = 1
   ·rw [if_neg (by simpa using e6), wi64_id (by omega) (by omega)]
    exact .inl ⟨4 - (k + 1), _, by omega, rfl, k + 1, by omega, rfl, rfl, nx (.inr ⟨⟨⟨by omega, by omega⟩, e4, e5⟩, hone.1 e6⟩)⟩
   ·rw [if_pos (by simpa using e6)]
    refine .inr ⟨_, rfl, .inr ⟨rfl, fin (fun hv => ?_)⟩⟩
    rcases hv with hv | hv
    ·exact e1 hv
    ·exact e6 (hone.2 hv.2)
  ·rw [if_pos (by simpa using e5)]
   exact .inr ⟨_, rfl, .inr ⟨rfl, fin (fun hv => by rcases hv with hv | hv; exact e1 hv; exact e5 hv.1.2.2)⟩⟩
 ·obtain rfl : k = 4 := by omega
  rw [if_neg (by omega)]
  exact .inr ⟨_, rfl, .inl ⟨rfl, q⟩⟩
open Classical in
theorem right11_eq {h : Heap} {c : List (List Int)} (hl : c.length ≤ 1000) (hp : h.2.1.length ≤ 16) : r11_Right (h, c, ()) = some (decide (RightP h c), ()) := by
 have hr : ∃ e, r11_Right_l3 (c, 0, h, ()) = some e ∧ ((e = .out () ∧ RightP h c) ∨ (e = .ret (false, ()) ∧ ¬ RightP h c)) := by
  unfold r11_Right_l3
  refine iterL_rule (fun n x => ∃ (i : Nat), i ≤ c.length ∧ n = c.length - i ∧ x = (c, (i : Int), h, ()) ∧ ∀ t, t < 4 * i → okAt h c t) ?_ _ c.length _ (by omega) ⟨0, by omega, by omega, rfl, fun t ht => by omega⟩
  rintro n x ⟨i, hi, rfl, rfl, q⟩
  simp only [r11_Right_s3, r11_Right_s3r, Bool.cond_decide]
  by_cases hlt : i < c.length
  ·rw [if_pos (by omega)]
   obtain ⟨e, e1, e2⟩ := right11_l2 hl hp i hlt q
   rw [e1, Option.bind_some]
   rcases e2 with ⟨rfl, q'⟩ | ⟨rfl, hn⟩
   ·dsimp only
    rw [wi64_id (by omega) (by omega)]
    exact .inl ⟨c.length - (i + 1), _, by omega, rfl, i + 1, by omega, rfl, rfl, q'⟩
   ·exact .inr ⟨_, rfl, .inr ⟨rfl, hn⟩⟩
  ·rw [if_neg (by omega)]
   obtain rfl : i = c.length := by omega
   exact .inr ⟨_, rfl, .inl ⟨rfl, right_okAt.2 q⟩⟩
 obtain ⟨e, h1, h2⟩ := hr
 simp only [r11_Right, r11_Right_r, h1, Option.bind_some]
 rcases h2 with ⟨rfl, h⟩ | ⟨rfl, h⟩
 ·rw [decide_eq_true h]
 ·rw [decide_eq_false h]
end Go.Proofs.YtbkjmefhenpmlaaGreatDoor.Den
/- Pure laws: the page that is found. -/
namespace Go.Proofs.YtbkjmefhenpmlaaGreatDoor.Den
open Go
set_option linter.unusedVariables false
set_option linter.unusedSimpArgs false
set_option maxRecDepth 100000
structure QueP (P : Nat → Bool) (n : Nat) (r : List Int) : Prop where
 lt : ∀ x ∈ r, x < n
 len : r.length ≤ n
 nil : r = [] → ∀ j, j < n → P j = false
 hd : r ≠ [] → ∃ i : Nat, i < n ∧ P i = true ∧ (∀ j, j < i → P j = false) ∧ r.getD 0 0 = (i : Int)
theorem QueP.zero (P : Nat → Bool) : QueP P 0 [] := ⟨fun x h => (by cases h), (by simp), fun _ j h => (by omega), fun h => absurd rfl h⟩
theorem QueP.push {P : Nat → Bool} {n : Nat} {r : List Int} (q : QueP P n r) (h : P n = true) : QueP P (n + 1) (r ++ [(n : Int)]) := by
 refine ⟨fun x hx => ?_, by rw [List.length_append]; have := q.len; simp; omega, fun e => by simp at e, fun _ => ?_⟩
 ·rcases List.mem_append.1 hx with hx | hx
  ·have := q.lt x hx; omega
  ·rw [List.mem_singleton] at hx; omega
 ·by_cases e : r = []
  ·subst e
   exact ⟨n, by omega, h, q.nil rfl, rfl⟩
  ·obtain ⟨i, a, b, c, d⟩ := q.hd e
   refine ⟨i, by omega, b, c, ?_⟩
   rw [← d]
   cases r with
   | nil => exact absurd rfl e
   | cons x r => rfl
end Go.Proofs.YtbkjmefhenpmlaaGreatDoor.Den
/- Pure laws: what is used; an object laid and freed. -/
namespace Go.Proofs.YtbkjmefhenpmlaaGreatDoor.Den
open Go
set_option linter.unusedVariables false
set_option linter.unusedSimpArgs false
set_option maxRecDepth 100000
def usedN (h : Heap) : Int := usN h h.2.1.length
theorem us1_sz : us1 sz = 0 := by kernel_rfl
theorem right_free {s : Span} (hr : rightB s = true) (hs : s.1 = 0) : s = sz := by
 simp only [rightB, if_pos hs, decide_eq_true_eq] at hr
 exact Prod.ext hs (Prod.ext hr.1 (Prod.ext hr.2 rfl))
end Go.Proofs.YtbkjmefhenpmlaaGreatDoor.Den
/- Pure laws: a block taken. -/
namespace Go.Proofs.YtbkjmefhenpmlaaGreatDoor.Den
open Go
set_option linter.unusedVariables false
set_option linter.unusedSimpArgs false
set_option maxRecDepth 100000
end Go.Proofs.YtbkjmefhenpmlaaGreatDoor.Den
/- Pure laws: a block taken, where only the plain forms are at hand. -/
namespace Go.Proofs.YtbkjmefhenpmlaaGreatDoor.Den
open Go
set_option linter.unusedVariables false
set_option linter.unusedSimpArgs false
set_option maxRecDepth 100000
end Go.Proofs.YtbkjmefhenpmlaaGreatDoor.Den
/- Pure laws: headers. -/
namespace Go.Proofs.YtbkjmefhenpmlaaGreatDoor.Den
open Go
set_option linter.unusedVariables false
set_option linter.unusedSimpArgs false
set_option maxRecDepth 100000
def hz : Hdr := (false, false, 0, 0, ())
def hok (w : Int) : Bool := decide (128 ≤ w ∧ w < 256) && decide (w % 16 < 2 ^ ((w / 16 % 4).toNat + 1))
def hd (w : Int) : Hdr := (true, decide (w / 64 % 2 = 1), w / 16 % 4, w % 16, ())
def hget (w : Int) : Hdr × Bool × Unit := if w = 0 then (hz, true, ()) else if hok w then (hd w, true, ()) else (hz, false, ())
theorem and_mask {y : Int} (h0 : 0 ≤ y) (h1 : y < 18446744073709551616) (k : Nat) (hk : k ≤ 63) : bitsI .and .u64 y (2 ^ k - 1) = y % 2 ^ k := by
 have hp : (2 : Nat) ^ k ≤ 2 ^ 63 := Nat.pow_le_pow_right (by decide) hk
 have hp0 : 0 < (2 : Nat) ^ k := Nat.pow_pos (by decide)
 have e2 : ((2 : Int) ^ k - 1) = ((2 ^ k - 1 : Nat) : Int) := by
  rw [Int.ofNat_sub hp0]; norm_cast
 obtain ⟨m, rfl⟩ := Int.eq_ofNat_of_zero_le h0
 have hm : m < 18446744073709551616 := by omega
 have e : bitsI .and .u64 (m : Int) (2 ^ k - 1) = wu64 ((m &&& (2 ^ k - 1) : Nat) : Int) := by
  rw [e2]
  change wu64 (((BitVec.ofInt 64 (m : Int)) &&& (BitVec.ofInt 64 ((2 ^ k - 1 : Nat) : Int))).toNat : Int) = _
  rw [BitVec.ofInt_natCast, BitVec.ofInt_natCast, BitVec.toNat_and, BitVec.toNat_ofNat, BitVec.toNat_ofNat]
  rw [Nat.mod_eq_of_lt (by omega : m < 2 ^ 64), Nat.mod_eq_of_lt (by omega : 2 ^ k - 1 < 2 ^ 64)]
 rw [e, Nat.and_two_pow_sub_one_eq_mod]
 have : m % 2 ^ k < 2 ^ k := Nat.mod_lt _ hp0
 rw [wu64_id (by omega) (by omega), Int.natCast_emod, Int.natCast_pow]; rfl
theorem put_small : ∀ (u c : Bool) (k n : Nat), k < 4 → n < 16 → ∃ v ok, header_Put ((u, c, (k : Int), (n : Int), ()), ()) = some (v, ok, ()) ∧ 0 ≤ v ∧ v < 256 := by
 have : ([true, false].all fun u => [true, false].all fun c => (List.range 4).all fun k => (List.range 16).all fun n =>
  match header_Put ((u, c, (k : Int), (n : Int), ()), ()) with
  | some (v, _, _) => decide (0 ≤ v ∧ v < 256)
  | none => false) = true := by kernel_rfl
 intro u c k n hk hn
 simp only [List.all_eq_true] at this
 have h := this u (by cases u <;> simp) c (by cases c <;> simp) k (by simpa using hk) n (by simpa using hn)
 split at h
 ·rename_i v ok x e
  exact ⟨v, ok, e, of_decide_eq_true h⟩
 ·cases h
theorem hget_big {w : Int} (h : 256 ≤ w) : hget w = (hz, false, ()) := by
 unfold hget hok
 rw [if_neg (by omega)]
 simp [show ¬ w < 256 by omega]
end Go.Proofs.YtbkjmefhenpmlaaGreatDoor.Den
/- Pure laws: objects. -/
namespace Go.Proofs.YtbkjmefhenpmlaaGreatDoor.Den
open Go
set_option linter.unusedVariables false
set_option linter.unusedSimpArgs false
set_option maxRecDepth 100000
theorem hget_small : ∀ n : Nat, n < 256 → header_Get ((n : Int), ()) = some (hget n) := by
 have : ((List.range 256).all fun n => decide (header_Get ((n : Int), ()) = some (hget n))) = true := by kernel_rfl
 intro n hn
 exact of_decide_eq_true (List.all_eq_true.1 this n (by simpa using hn))
theorem headerGet_eq {w : Int} (h0 : 0 ≤ w) (h1 : w < 18446744073709551616) : header_Get (w, ()) = some (hget w) := by
 by_cases h : w < 256
 ·obtain ⟨n, rfl⟩ := Int.eq_ofNat_of_zero_le h0
  exact hget_small n (by omega)
 rw [hget_big (by omega)]
 simp only [header_Get, header_Get_r, ibne]
 have e4 : shiftI false .u64 w 4 = w / 16 := by
  simp only [shiftI, cond_false, IntKind.bits]
  rw [Int.fdiv_eq_ediv_of_nonneg _ (by decide)]
  rfl
 have e0 : shiftI false .u64 w 0 = w := by
  simp only [shiftI, cond_false, IntKind.bits]
  rw [Int.fdiv_eq_ediv_of_nonneg _ (by decide)]
  simp
 rw [e4, e0]
 have m3 := and_mask (y := w / 16) (by omega) (by omega) 2 (by omega)
 have m15 := and_mask h0 h1 4 (by omega)
 simp only [Int.reducePow, Int.reduceSub] at m3 m15
 rw [m3, m15, wi64_id (by omega) (by omega), wi64_id (by omega) (by omega)]
 generalize hk : w / 16 % 4 = k
 generalize hn : w % 16 = n
 obtain ⟨k, rfl⟩ := Int.eq_ofNat_of_zero_le (show 0 ≤ k by omega)
 obtain ⟨n, rfl⟩ := Int.eq_ofNat_of_zero_le (show 0 ≤ n by omega)
 obtain ⟨v, ok, e, v0, v1⟩ := put_small (decide (¬ bitsI .and .u64 w 128 = 0)) (decide (¬ bitsI .and .u64 w 64 = 0)) k n (by omega) (by omega)
 rw [e]
 simp only [Option.bind_some]
 cases ok
 ·rfl
 ·simp only [Bool.not_true, cond_false, Bool.cond_decide]
  rw [if_pos (by omega)]; rfl
def og (h : Heap) (a : Int) : Hdr × Bool × Unit := if fndB h a && hok (h.1.getD a.toNat 0) && decide (a % 32 + h.1.getD a.toNat 0 % 16 < 32) then (hd (h.1.getD a.toNat 0), true, ()) else (hz, false, ())
theorem word_at {h : Heap} (f : FormP h) (a : Nat) : 0 ≤ h.1.getD a 0 ∧ h.1.getD a 0 < 18446744073709551616 := by
 by_cases h1 : a < h.1.length
 ·rw [get_d _ _ _ h1]; exact f.word _ (List.getElem_mem h1)
 ·rw [List.getD, List.getElem?_eq_none (by omega)]; simp
theorem objGet_eq {h : Heap} (f : FormP h) {a : Int} (l : -9223372036854775808 ≤ a) (u : a < 9223372036854775808) : object_Get (h, a, ()) = some (og h a) := by
 have hn := f.n16
 have hl := f.len
 simp only [object_Get, object_Get_r, find_eq f l u, Option.bind_some, Bool.cond_decide, og, fnd]
 cases hb : fndB h a with
 | false => rfl
 | true =>
  obtain ⟨a0, a1⟩ := fndB_rng hb
  obtain ⟨w0, w1⟩ := word_at f a.toNat
  simp only [if_true, Bool.not_true, cond_false]
  rw [if_pos a0, if_pos (by omega), headerGet_eq w0 w1]
  generalize h.1.getD a.toNat 0 = w at *
  simp only [Option.bind_some, hget]
  by_cases hw : w = 0
  ·subst hw; rfl
  rw [if_neg hw]
  cases hk : hok w with
  | false => rfl
  | true =>
   simp only [if_true, Bool.not_true, cond_false, hd, Bool.true_and, Bool.and_self, decide_eq_true_eq]
   rw [wi64_id (n := a / 32 + 1) (by omega) (by omega), wi64_id (n := a + _) (by omega) (by omega), wi64_id (n := _ * 32) (by omega) (by omega)]
   by_cases hc : a % 32 + w % 16 < 32
   ·rw [if_neg (by omega), if_pos hc]
   ·rw [if_pos (by omega), if_neg hc]; rfl
theorem og_rng {h : Heap} {a : Int} (f : FormP h) (ho : (og h a).2.1 = true) : 0 ≤ a ∧ a % 32 + (og h a).1.2.2.2.1 < 32 ∧ 0 ≤ (og h a).1.2.2.2.1 ∧ a < 32 * h.2.1.length ∧ (og h a).1.2.2.2.1 ≤ 15 := by
 unfold og at *
 split at ho
 ·rename_i hc
  simp only [hc, if_true, hd]
  simp only [Bool.and_eq_true, decide_eq_true_eq] at hc
  have := fndB_rng hc.1.1
  omega
 ·cases ho
end Go.Proofs.YtbkjmefhenpmlaaGreatDoor.Den
/- Pure laws: the references' headers. -/
namespace Go.Proofs.YtbkjmefhenpmlaaGreatDoor.Den
open Go
set_option linter.unusedVariables false
set_option linter.unusedSimpArgs false
set_option maxRecDepth 100000
theorem put2_small : ∀ (c : Bool) (k n : Nat), k < 4 → n < 16 → ∃ m v, r02_May ((true, c, (k : Int), (n : Int), ()), ()) = some (m, ()) ∧ r02_Put ((true, c, (k : Int), (n : Int), ()), ()) = some (v, ()) ∧ 0 ≤ v ∧ v < 256 := by
 have : ([true, false].all fun c => (List.range 4).all fun k => (List.range 16).all fun n =>
  match r02_May ((true, c, (k : Int), (n : Int), ()), ()), r02_Put ((true, c, (k : Int), (n : Int), ()), ()) with
  | some _, some (v, _) => decide (0 ≤ v ∧ v < 256)
  | _, _ => false) = true := by kernel_rfl
 intro c k n hk hn
 simp only [List.all_eq_true] at this
 have h := this c (by cases c <;> simp) k (by simpa using hk) n (by simpa using hn)
 split at h
 ·rename_i m v x e1 e2
  exact ⟨m.1, v, e1, e2, of_decide_eq_true h⟩
 ·cases h
theorem hget2_small : ∀ n : Nat, n < 256 → r02_Get ((n : Int), ()) = some (hget n) := by
 have : ((List.range 256).all fun n => decide (r02_Get ((n : Int), ()) = some (hget n))) = true := by kernel_rfl
 intro n hn
 exact of_decide_eq_true (List.all_eq_true.1 this n (by simpa using hn))
theorem get2_l0 {w : Int} (hw : 256 ≤ w) {k n : Nat} (hk : k < 4) (hn : n < 16) (c : Hdr) : r02_Get_l0 (w, k, n, 0, c, ()) = some (.out (w, k, n, c, ())) := by
 unfold r02_Get_l0
 refine iterL_run 2 (fun i => (w, (k : Int), (n : Int), (i : Int), c, ())) (fun i hi => ?_) rfl (by omega) rfl
 obtain ⟨m, v, e1, e2, v0, v1⟩ := put2_small (decide ((i : Int) = 1)) k n hk hn
 simp only [r02_Get_s0, r02_Get_s0r, Bool.cond_decide, e1, e2, Option.bind_some, ibeq]
 rw [if_pos (by omega), if_neg (by omega), wi64_id (by omega) (by omega)]
 cases m <;> rfl
theorem get2_l1 {w : Int} (hw : 256 ≤ w) {k : Nat} (hk : k < 4) (c : Hdr) : r02_Get_l1 (w, k, 0, c, ()) = some (.out (w, k, c, ())) := by
 unfold r02_Get_l1
 refine iterL_run 16 (fun i => (w, (k : Int), (i : Int), c, ())) (fun i hi => ?_) rfl (by omega) rfl
 simp only [r02_Get_s1, r02_Get_s1r, Bool.cond_decide, get2_l0 hw hk hi, Option.bind_some]
 rw [if_pos (by omega), wi64_id (by omega) (by omega)]
 rfl
theorem get2_l2 {w : Int} (hw : 256 ≤ w) (c : Hdr) : r02_Get_l2 (w, 0, c, ()) = some (.out (c, ())) := by
 unfold r02_Get_l2
 refine iterL_run 4 (fun i => (w, (i : Int), c, ())) (fun i hi => ?_) rfl (by omega) rfl
 simp only [r02_Get_s2, r02_Get_s2r, Bool.cond_decide, get2_l1 hw hi, Option.bind_some]
 rw [if_pos (by omega), wi64_id (by omega) (by omega)]
 rfl
theorem headerGet2_eq {w : Int} (h0 : 0 ≤ w) : r02_Get (w, ()) = some (hget w) := by
 by_cases h : w < 256
 ·obtain ⟨n, rfl⟩ := Int.eq_ofNat_of_zero_le h0
  exact hget2_small n (by omega)
 rw [hget_big (by omega)]
 simp only [r02_Get, r02_Get_r, ibeq, Bool.cond_decide, get2_l2 (show 256 ≤ w by omega), Option.bind_some]
 rw [if_neg (by omega)]; rfl
end Go.Proofs.YtbkjmefhenpmlaaGreatDoor.Den
/- Pure laws: the references' objects. -/
namespace Go.Proofs.YtbkjmefhenpmlaaGreatDoor.Den
open Go
set_option linter.unusedVariables false
set_option linter.unusedSimpArgs false
set_option maxRecDepth 100000
theorem objGet8_eq {h : Heap} (f : FormP h) (a : Int) : r08_Get (h, a, ()) = some (og h a) := by
 have hn := f.n16
 have hl := f.len
 simp only [r08_Get, r08_Get_r, find7_eq f a, Option.bind_some, Bool.cond_decide, og, fnd]
 cases hb : fndB h a with
 | false => rfl
 | true =>
  obtain ⟨a0, a1⟩ := fndB_rng hb
  obtain ⟨w0, w1⟩ := word_at f a.toNat
  simp only [if_true, Bool.not_true, cond_false]
  rw [if_pos a0, if_pos (by omega), headerGet2_eq w0]
  generalize h.1.getD a.toNat 0 = w at *
  simp only [Option.bind_some, hget]
  by_cases hw : w = 0
  ·subst hw; rfl
  rw [if_neg hw]
  cases hk : hok w with
  | false => rfl
  | true =>
   simp only [if_true, Bool.not_true, cond_false, hd, Bool.true_and, Bool.and_self, decide_eq_true_eq]
   rw [Int.tdiv_eq_ediv_of_nonneg a0, wi64_id (n := a / 32) (by omega) (by omega), wi64_id (n := a + _) (by omega) (by omega), wi64_id (n := 32 * _) (by omega) (by omega), wi64_id (by omega) (by omega)]
   by_cases hc : a % 32 + w % 16 < 32
   ·rw [if_neg (by omega), if_pos hc]
   ·rw [if_pos (by omega), if_neg hc]; rfl
def bk (h : Heap) (a : Int) : Bool := (og h a).2.1 && ((og h a).1.2.1 == h.2.2.1)
theorem black_eq {h : Heap} (f : FormP h) {a : Int} (l : -9223372036854775808 ≤ a) (u : a < 9223372036854775808) : object_Black (h, a, ()) = some (bk h a, ()) := by
 simp only [object_Black, object_Black_r, objGet_eq f l u, Option.bind_some, bk]
 by_cases e : (og h a).2.1 = true
 ·simp only [e, cond_true, Bool.true_and]
 ·simp only [Bool.not_eq_true] at e
  simp only [e, cond_false, Bool.false_and]
theorem black8_eq {h : Heap} (f : FormP h) (a : Int) : r08_Black (h, a, ()) = some (bk h a, ()) := by
 simp only [r08_Black, r08_Black_r, objGet8_eq f a, Option.bind_some, bk]
 by_cases e : (og h a).2.1 = true
 ·simp only [e, cond_true, Bool.true_and]
 ·simp only [Bool.not_eq_true] at e
  simp only [e, cond_false, Bool.false_and]
end Go.Proofs.YtbkjmefhenpmlaaGreatDoor.Den
/- Pure laws: painting, rows of objects, shading. -/
namespace Go.Proofs.YtbkjmefhenpmlaaGreatDoor.Den
open Go
set_option linter.unusedVariables false
set_option linter.unusedSimpArgs false
set_option maxRecDepth 100000
def pw (s : Bool) (w : Int) : Int := 128 + (bif s then 64 else 0) + w % 64
theorem pw_rng (s : Bool) (w : Int) : 128 ≤ pw s w ∧ pw s w < 256 := by
 unfold pw; cases s <;> simp only [cond_true, cond_false] <;> omega
theorem hok_rng {w : Int} (h : hok w = true) : 128 ≤ w ∧ w < 256 := by
 simp only [hok, Bool.and_eq_true, decide_eq_true_eq] at h; omega
theorem og_ok {h : Heap} {a : Int} (e : (og h a).2.1 = true) : fndB h a = true ∧ hok (h.1.getD a.toNat 0) = true ∧ a % 32 + h.1.getD a.toNat 0 % 16 < 32 ∧ og h a = (hd (h.1.getD a.toNat 0), true, ()) := by
 unfold og at *
 split at e
 ·rename_i hc
  rw [if_pos hc]
  simp only [Bool.and_eq_true, decide_eq_true_eq] at hc
  exact ⟨hc.1.1, hc.1.2, hc.2, rfl⟩
 ·cases e
def nh (h : Heap) (a : Int) : Heap := (h.1.set a.toNat (pw h.2.2.1 (h.1.getD a.toNat 0)), h.2.1, h.2.2)
theorem FormP.nh {h : Heap} (f : FormP h) (a : Int) : FormP (nh h a) := by
 refine ⟨f.n1, f.n16, ?_, f.right, fun w hw => ?_⟩
 ·show (h.1.set _ _).length = _
  rw [List.length_set]; exact f.len
 ·rcases List.mem_or_eq_of_mem_set hw with hw | rfl
  ·exact f.word w hw
  ·have := pw_rng h.2.2.1 (h.1.getD a.toNat 0); omega
structure GreyP (g : Grey) : Prop where
 r0 : 0 ≤ g.1
 r16 : g.1 ≤ 16
 len : (g.2.1.length : Int) ≤ g.1
def gp (g : Grey) (a : Int) : Grey × Bool × Unit := if a < 0 ∨ g.1 ≤ g.2.1.length then (g, false, ()) else ((g.1, g.2.1 ++ [a], ()), true, ())
theorem GreyP.gp {g : Grey} (p : GreyP g) (a : Int) : GreyP (gp g a).1 := by
 unfold Go.Proofs.YtbkjmefhenpmlaaGreatDoor.Den.gp
 split
 ·exact p
 ·rename_i h
  refine ⟨p.r0, p.r16, ?_⟩
  show ((g.2.1 ++ [a]).length : Int) ≤ g.1
  rw [List.length_append]
  simp only [List.length_singleton]
  omega
abbrev ShT : Type := Heap × Grey × Bool × Unit
def sh (h : Heap) (g : Grey) (v : Val) : ShT := if v.1 = 2 ∧ (og h v.2.1).2.1 = true ∧ bk h v.2.1 = false then (nh h v.2.1, (gp g v.2.1).1, !(gp g v.2.1).2.1, ()) else (h, g, false, ())
end Go.Proofs.YtbkjmefhenpmlaaGreatDoor.Den
/- Pure laws: rows alike, right. -/
namespace Go.Proofs.YtbkjmefhenpmlaaGreatDoor.Den
open Go
set_option linter.unusedVariables false
set_option linter.unusedSimpArgs false
set_option maxRecDepth 100000
theorem ints_eq (a b : List Int) (ha : a.length < 9223372036854775807) : r08_Ints (a, b, ()) = some (decide (a = b), ()) := by
 simp only [r08_Ints, r08_Ints_r, ibne, Bool.cond_decide]
 by_cases hl : a.length = b.length
 ·rw [if_neg (by omega)]
  have key : ∃ l, r08_Ints_l0 (a, b, 0, ()) = some l ∧ l = (if a = b then .out () else .ret (false, ())) := by
   unfold r08_Ints_l0
   refine iterL_rule (fun n x => ∃ i : Nat, i ≤ a.length ∧ n = a.length - i ∧ x = (a, b, (i : Int), ()) ∧ ∀ j (h1 : j < a.length) (h2 : j < b.length), j < i → a[j] = b[j]) ?_ _ a.length _ (by omega) ⟨0, by omega, rfl, rfl, fun j _ _ hj => by omega⟩
   rintro n x ⟨i, i1, rfl, rfl, hi⟩
   simp only [r08_Ints_s0, r08_Ints_s0r, Bool.cond_decide, ibne]
   by_cases hn : i < a.length
   ·rw [if_pos (by omega), if_pos (by omega), if_pos (by omega), if_pos (by omega), if_pos (by omega), Int.toNat_natCast, get_d _ _ _ hn, get_d _ _ _ (by omega : i < b.length)]
    by_cases e : a[i] = b[i]
    ·rw [if_neg (by simpa using e), wi64_id (by omega) (by omega)]
     refine .inl ⟨a.length - (i + 1), (a, b, ((i + 1 : Nat) : Int), ()), by omega, rfl, i + 1, by omega, rfl, rfl, fun j h1 h2 h3 => ?_⟩
     by_cases e' : j = i
     ·subst e'; exact e
     ·exact hi j h1 h2 (by omega)
    ·rw [if_pos e]
     refine .inr ⟨_, rfl, ?_⟩
     rw [if_neg]
     intro h; subst h; exact e rfl
   ·rw [if_neg (by omega)]
    refine .inr ⟨_, rfl, ?_⟩
    rw [if_pos (list_eq_of hl fun j h1 h2 => hi j h1 h2 (by omega))]
  obtain ⟨l, e, rfl⟩ := key
  rw [e]
  by_cases h : a = b
  ·simp [h]
  ·simp [h]
 ·rw [if_pos (by omega)]
  have : a ≠ b := fun h => hl (by rw [h])
  simp [this]
theorem same13_eq (a b : Grey) (ha : a.2.1.length < 9223372036854775807) : r13_Same (a, b, ()) = some (decide (a.1 = b.1 ∧ a.2.1 = b.2.1), ()) := by
 simp only [r13_Same, r13_Same_r, ibeq, Bool.cond_decide, ints_eq _ _ ha, Option.bind_some]
 by_cases h : a.1 = b.1
 ·simp [h]
 ·simp [h]
def grB (g : Grey) : Bool := decide (0 ≤ g.1 ∧ g.1 ≤ 16 ∧ (g.2.1.length : Int) ≤ g.1) && g.2.1.all fun n => decide (0 ≤ n)
theorem greyRight_eq (g : Grey) : r13_Right (g, ()) = some (grB g, ()) := by
 simp only [r13_Right, r13_Right_r, Bool.cond_decide, grB]
 by_cases h1 : g.1 < 0
 ·rw [if_pos h1]; simp [show ¬ 0 ≤ g.1 by omega]
 by_cases h2 : g.1 > 16
 ·rw [if_neg h1, if_pos h2]; simp [show ¬ g.1 ≤ 16 by omega]
 by_cases h3 : (g.2.1.length : Int) > g.1
 ·rw [if_neg h1, if_neg h2, if_pos h3]; simp [show ¬ (g.2.1.length : Int) ≤ g.1 by omega]
 rw [if_neg h1, if_neg h2, if_neg h3]
 have key : ∃ l, r13_Right_l0 (0, g, ()) = some l ∧ l = (if (g.2.1.all fun n => decide (0 ≤ n)) = true then .out () else .ret (false, ())) := by
  unfold r13_Right_l0
  refine iterL_rule (fun n x => ∃ i : Nat, i ≤ g.2.1.length ∧ n = g.2.1.length - i ∧ x = ((i : Int), g, ()) ∧ ∀ j (h1 : j < g.2.1.length), j < i → 0 ≤ g.2.1[j]) ?_ _ g.2.1.length _ (by omega) ⟨0, by omega, rfl, rfl, fun j _ hj => by omega⟩
  rintro n x ⟨i, i1, rfl, rfl, hi⟩
  simp only [r13_Right_s0, r13_Right_s0r, Bool.cond_decide]
  by_cases hn : i < g.2.1.length
  ·rw [if_pos (by omega), if_pos (by omega), if_pos (by omega), Int.toNat_natCast, get_d _ _ _ hn]
   by_cases e : g.2.1[i] < 0
   ·rw [if_pos e]
    refine .inr ⟨_, rfl, ?_⟩
    rw [if_neg]
    intro h
    have := List.all_eq_true.1 h _ (List.getElem_mem hn)
    simp only [decide_eq_true_eq] at this
    omega
   ·rw [if_neg e, wi64_id (by omega) (by omega)]
    refine .inl ⟨g.2.1.length - (i + 1), (((i + 1 : Nat) : Int), g, ()), by omega, rfl, i + 1, by omega, rfl, rfl, fun j h1 h3 => ?_⟩
    by_cases e' : j = i
    ·subst e'; omega
    ·exact hi j h1 (by omega)
  ·rw [if_neg (by omega)]
   refine .inr ⟨_, rfl, ?_⟩
   rw [if_pos]
   rw [List.all_eq_true]
   intro x hx
   obtain ⟨j, hj, rfl⟩ := List.mem_iff_getElem.1 hx
   simpa using hi j hj (by omega)
 obtain ⟨l, e, rfl⟩ := key
 rw [e]
 have : (0 : Int) ≤ g.1 ∧ g.1 ≤ 16 ∧ (g.2.1.length : Int) ≤ g.1 := by omega
 simp only [this, and_self, decide_true, Bool.true_and, Option.bind_some]
 cases (g.2.1.all fun n => decide (0 ≤ n)) <;> rfl
theorem grey_of {g : Grey} (h : grB g = true) : GreyP g ∧ ∀ n ∈ g.2.1, 0 ≤ n := by
 simp only [grB, Bool.and_eq_true, decide_eq_true_eq, List.all_eq_true] at h
 exact ⟨⟨h.1.1, h.1.2.1, h.1.2.2⟩, h.2⟩
end Go.Proofs.YtbkjmefhenpmlaaGreatDoor.Den
/- Pure laws: what is painted. -/
namespace Go.Proofs.YtbkjmefhenpmlaaGreatDoor.Den
open Go
set_option linter.unusedVariables false
set_option linter.unusedSimpArgs false
set_option maxRecDepth 100000
def pn (h : Heap) (S : Int → Bool) : Heap := (h.1.mapIdx (fun i w => if (S (i : Int) && (og h (i : Int)).2.1) = true then pw h.2.2.1 w else w), h.2.1, h.2.2)
theorem pn_len (h : Heap) (S : Int → Bool) : (pn h S).1.length = h.1.length := by
 simp [pn]
theorem pn_word (h : Heap) (S : Int → Bool) (i : Nat) (hi : i < h.1.length) : (pn h S).1.getD i 0 = if (S (i : Int) && (og h (i : Int)).2.1) = true then pw h.2.2.1 (h.1.getD i 0) else h.1.getD i 0 := by
 rw [get_d _ _ _ (by rw [pn_len]; exact hi), get_d _ _ _ hi]
 simp [pn]
theorem pw_hok {s : Bool} {w : Int} (h : hok w = true) : hok (pw s w) = true := by
 have h1 := hok_rng h
 have h2 := pw_rng s w
 simp only [hok, Bool.and_eq_true, decide_eq_true_eq] at h ⊢
 have e1 : pw s w % 16 = w % 16 := by unfold pw; cases s <;> simp only [cond_true, cond_false] <;> omega
 have e2 : pw s w / 16 % 4 = w / 16 % 4 := by unfold pw; cases s <;> simp only [cond_true, cond_false] <;> omega
 rw [e1, e2]
 exact ⟨by omega, h.2⟩
theorem pw_hd (s : Bool) (w : Int) : hd (pw s w) = (true, s, w / 16 % 4, w % 16, ()) := by
 have e1 : pw s w % 16 = w % 16 := by unfold pw; cases s <;> simp only [cond_true, cond_false] <;> omega
 have e2 : pw s w / 16 % 4 = w / 16 % 4 := by unfold pw; cases s <;> simp only [cond_true, cond_false] <;> omega
 have e3 : decide (pw s w / 64 % 2 = 1) = s := by
  unfold pw; cases s <;> simp only [cond_true, cond_false]
  ·exact decide_eq_false (by omega)
  ·exact decide_eq_true (by omega)
 unfold hd
 rw [e1, e2, e3]
theorem pw_pw (s : Bool) (w : Int) : pw s (pw s w) = pw s w := by
 unfold pw; cases s <;> simp only [cond_true, cond_false] <;> omega
theorem fndB_pn (h : Heap) (S : Int → Bool) (a : Int) : fndB (pn h S) a = fndB h a := rfl
theorem og_pn {h : Heap} (f : FormP h) (S : Int → Bool) (a : Int) : og (pn h S) a = if (og h a).2.1 = true then ((true, (if S a = true then h.2.2.1 else (og h a).1.2.1), (og h a).1.2.2.1, (og h a).1.2.2.2.1, ()), true, ()) else (hz, false, ()) := by
 have hl := f.len
 by_cases hb : fndB h a = true
 ·have hr := fndB_rng hb
  obtain ⟨i, rfl⟩ := Int.eq_ofNat_of_zero_le hr.1
  by_cases ho : (og h (i : Int)).2.1 = true
  ·obtain ⟨e1, e2, e3, e4⟩ := og_ok ho
   rw [if_pos ho]
   simp only [Int.toNat_natCast] at e2 e3 e4
   have hw : (pn h S).1.getD i 0 = if S (i : Int) = true then pw h.2.2.1 (h.1.getD i 0) else h.1.getD i 0 := by
    rw [pn_word _ _ _ (by omega), ho, Bool.and_true]
   have h16 : (pn h S).1.getD i 0 % 16 = h.1.getD i 0 % 16 := by
    rw [hw]; split
    ·unfold pw; cases h.2.2.1 <;> simp only [cond_true, cond_false] <;> omega
    ·rfl
   have hk : hok ((pn h S).1.getD i 0) = true := by
    rw [hw]; split
    ·exact pw_hok e2
    ·exact e2
   rw [e4]
   unfold og
   rw [fndB_pn, hb, Int.toNat_natCast, hk, h16, if_pos (by simpa using e3), hw]
   by_cases hS : S (i : Int) = true
   ·simp only [if_pos hS, pw_hd]; rfl
   ·simp only [if_neg hS]; rfl
  ·rw [if_neg ho]
   have hw : (pn h S).1.getD i 0 = h.1.getD i 0 := by
    rw [pn_word _ _ _ (by omega)]
    simp only [Bool.not_eq_true] at ho
    rw [ho, Bool.and_false, if_neg (by decide)]
   have : og (pn h S) (i : Int) = og h (i : Int) := by
    unfold og
    rw [fndB_pn, Int.toNat_natCast, hw]
   rw [this]
   unfold og at ho ⊢
   split at ho
   ·exact absurd rfl ho
   ·rename_i hc; rw [if_neg hc]
 ·have : (og h a).2.1 = false := by
   unfold og; rw [if_neg (by simp [hb])]
  rw [this, if_neg (by decide)]
  unfold og
  rw [fndB_pn, if_neg (by simp [hb])]
theorem ok_pn {h : Heap} (f : FormP h) (S : Int → Bool) (a : Int) : (og (pn h S) a).2.1 = (og h a).2.1 := by
 rw [og_pn f]
 cases e : (og h a).2.1 <;> rfl
theorem bk_pn {h : Heap} (f : FormP h) (S : Int → Bool) (a : Int) : bk (pn h S) a = ((og h a).2.1 && (S a || bk h a)) := by
 unfold bk
 rw [og_pn f]
 cases e : (og h a).2.1
 ·simp
 ·cases e' : S a
  ·simp; rfl
  ·simp [pn]
theorem FormP.pn {h : Heap} (f : FormP h) (S : Int → Bool) : FormP (pn h S) := by
 refine ⟨f.n1, f.n16, ?_, f.right, fun w hw => ?_⟩
 ·rw [pn_len]; exact f.len
 ·obtain ⟨i, hi, rfl⟩ := List.mem_iff_getElem.1 hw
  have hi' := hi
  rw [pn_len] at hi'
  have := pn_word h S i hi'
  rw [get_d _ _ _ hi] at this
  rw [this]
  split
  ·have := pw_rng h.2.2.1 (h.1.getD i 0); omega
  ·exact word_at f i
theorem heap_ext {a b : Heap} (hl : a.1.length = b.1.length) (hw : ∀ i, i < a.1.length → a.1.getD i 0 = b.1.getD i 0) (h2 : a.2 = b.2) : a = b := by
 refine Prod.ext (list_eq_of hl fun j h1 h2 => ?_) h2
 have := hw j h1
 rw [get_d _ _ _ h1, get_d _ _ _ h2] at this
 exact this
theorem pn_pn {h : Heap} (f : FormP h) (S T : Int → Bool) : pn (pn h S) T = pn h (fun a => S a || T a) := by
 refine heap_ext (by rw [pn_len, pn_len, pn_len]) (fun i hi => ?_) rfl
 rw [pn_len, pn_len] at hi
 rw [pn_word _ _ _ (by rw [pn_len]; exact hi), pn_word _ _ _ hi, pn_word _ _ _ hi, ok_pn f]
 have hs : (pn h S).2.2.1 = h.2.2.1 := rfl
 rw [hs]
 cases (og h (i : Int)).2.1
 ·simp
 ·cases S (i : Int)
  ·simp
  ·cases T (i : Int)
   ·simp
   ·simp [pw_pw]
theorem pn_none {h : Heap} : pn h (fun _ => false) = h := by
 refine heap_ext (by rw [pn_len]) (fun i hi => ?_) rfl
 rw [pn_len] at hi
 rw [pn_word _ _ _ hi]; simp
theorem nh_pn {h : Heap} (f : FormP h) {a : Int} (ho : (og h a).2.1 = true) : nh h a = pn h (fun b => a == b) := by
 obtain ⟨e1, e2, e3, e4⟩ := og_ok ho
 have hr := fndB_rng e1
 have hl := f.len
 obtain ⟨k, rfl⟩ := Int.eq_ofNat_of_zero_le hr.1
 refine heap_ext (by rw [pn_len]; show (h.1.set _ _).length = _; rw [List.length_set]) (fun i hi => ?_) rfl
 have hi : i < h.1.length := by
  have : (nh h (k : Int)).1.length = h.1.length := by show (h.1.set _ _).length = _; rw [List.length_set]
  omega
 rw [pn_word _ _ _ hi]
 show (h.1.set _ _).getD i 0 = _
 rw [get_d _ _ _ (by rw [List.length_set]; exact hi), List.getElem_set, Int.toNat_natCast]
 by_cases e : k = i
 ·subst e
  rw [if_pos rfl, ho]; simp
 ·rw [if_neg e]
  have : ((k : Int) == (i : Int)) = false := by rw [ibeq]; exact decide_eq_false (by omega)
  rw [this, Bool.false_and, if_neg (by decide), get_d _ _ _ hi]
def one (v : Val) (p : Int) : Bool := v.1 == 2 && v.2.1 == p
def named (vs : List Val) (p : Int) : Bool := vs.any fun v => one v p
end Go.Proofs.YtbkjmefhenpmlaaGreatDoor.Den
