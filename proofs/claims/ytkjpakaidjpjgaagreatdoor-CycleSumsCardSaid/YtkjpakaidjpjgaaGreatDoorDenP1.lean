/- Pure laws. -/
import Derived.Test.YtkjpakaidjpjgaaGreatDoorDenFz
/- Pure laws: words, loops. -/
namespace Go.Proofs.YtkjpakaidjpjgaaGreatDoor.Den
open Go
set_option linter.unusedVariables false
set_option linter.unusedSimpArgs false
theorem wi64_id {n : Int} (h1 : -9223372036854775808 ≤ n) (h2 : n < 9223372036854775808) : wi64 n = n := by
 have : IntKind.wrap .i64 n = (if (n % 18446744073709551616) ≥ 9223372036854775808 then n % 18446744073709551616 - 18446744073709551616 else n % 18446744073709551616) := by
  simp [IntKind.wrap, IntKind.bits, IntKind.signed]
 rw [wi64, this]; split <;> omega
theorem wi64_rng (n : Int) : -9223372036854775808 ≤ wi64 n ∧ wi64 n < 9223372036854775808 := by
 have : IntKind.wrap .i64 n = (if (n % 18446744073709551616) ≥ 9223372036854775808 then n % 18446744073709551616 - 18446744073709551616 else n % 18446744073709551616) := by
  simp [IntKind.wrap, IntKind.bits, IntKind.signed]
 rw [wi64, this]; split <;> omega
theorem wu64_eq (n : Int) : wu64 n = n % 18446744073709551616 := by
 simp [wu64, IntKind.wrap, IntKind.bits, IntKind.signed]
theorem wu32_eq (n : Int) : wu32 n = n % 4294967296 := by
 simp [wu32, IntKind.wrap, IntKind.bits, IntKind.signed]
theorem wu64_id {n : Int} (h1 : 0 ≤ n) (h2 : n < 18446744073709551616) : wu64 n = n := by rw [wu64_eq]; omega
theorem wu32_id {n : Int} (h1 : 0 ≤ n) (h2 : n < 4294967296) : wu32 n = n := by rw [wu32_eq]; omega
theorem iterL_rule {h o r : U} {step : h.T → Option (SRes h o r)} {Q : LRes o r → Prop} (I : Nat → h.T → Prop)
  (hs : ∀ n x, I n x → (∃ m y, m < n ∧ step x = some (.next y) ∧ I m y) ∨ ∃ l, step x = some (.fin l) ∧ Q l) :
  ∀ fuel n x, n < fuel → I n x → ∃ l, iterL step fuel x = some l ∧ Q l := by
 intro fuel
 induction fuel with
 | zero => intro n x h; omega
 | succ k ih =>
  intro n x h hI
  rcases hs n x hI with ⟨m, y, hm, e, hy⟩ | ⟨l, e, hl⟩
  ·obtain ⟨l, e', hl⟩ := ih m y (by omega) hy
   exact ⟨l, by simp only [iterL, e]; exact e', hl⟩
  ·exact ⟨l, by simp only [iterL, e], hl⟩
theorem iterL_count {h o r : U} {step : h.T → Option (SRes h o r)} {Q : LRes o r → Prop} (N : Nat) (g : Nat → h.T)
  (hs : ∀ i, i < N → step (g i) = some (.next (g (i + 1))) ∨ ∃ l, step (g i) = some (.fin l) ∧ Q l)
  (he : ∃ l, step (g N) = some (.fin l) ∧ Q l) {fuel : Nat} (hf : N < fuel) {x : h.T} (hx : x = g 0) : ∃ l, iterL step fuel x = some l ∧ Q l := by
 subst hx
 refine iterL_rule (fun n x => ∃ i, i ≤ N ∧ n = N - i ∧ x = g i) ?_ fuel N _ hf ⟨0, by omega, by omega, rfl⟩
 rintro n x ⟨i, hi, rfl, rfl⟩
 by_cases h : i < N
 ·rcases hs i h with e | e
  ·exact .inl ⟨N - (i + 1), _, by omega, e, i + 1, by omega, rfl, rfl⟩
  ·exact .inr e
 ·obtain rfl : i = N := by omega
  exact .inr he
theorem iterL_run {h o r : U} {step : h.T → Option (SRes h o r)} (N : Nat) (g : Nat → h.T) {l : LRes o r}
  (hs : ∀ i, i < N → step (g i) = some (.next (g (i + 1)))) (he : step (g N) = some (.fin l)) {fuel : Nat} (hf : N < fuel) {x : h.T} (hx : x = g 0) : iterL step fuel x = some l := by
 obtain ⟨l', e, rfl⟩ := iterL_count (Q := fun x => x = l) N g (fun i hi => .inl (hs i hi)) ⟨l, he, rfl⟩ hf hx
 exact e
theorem ibeq (a b : Int) : (a == b) = decide (a = b) := rfl
theorem ibne (a b : Int) : (a != b) = decide (¬ a = b) := by rw [bne, ibeq, decide_not]
theorem condn {α : Type} (b : Bool) (x y : α) : (bif !b then x else y) = bif b then y else x := by cases b <;> rfl
theorem get_d {α} (xs : List α) (i : Nat) (z : α) (h : i < xs.length) : xs.getD i z = xs[i] := by
 simp [List.getD, h]
end Go.Proofs.YtkjpakaidjpjgaaGreatDoor.Den
/- Pure laws: classes, bits, spans, the heap's form. -/
namespace Go.Proofs.YtkjpakaidjpjgaaGreatDoor.Den
open Go
set_option linter.unusedVariables false
set_option linter.unusedSimpArgs false
set_option maxRecDepth 10000
def cw (c : Int) : Int := if c = 0 then 2 else if c = 1 then 4 else if c = 2 then 8 else if c = 3 then 16 else 0
def cb (c : Int) : Int := if c = 0 then 16 else if c = 1 then 8 else if c = 2 then 4 else if c = 3 then 2 else 0
theorem class_cases (c : Int) : c = 0 ∨ c = 1 ∨ c = 2 ∨ c = 3 ∨ (c < 0 ∨ 3 < c) := by omega
theorem cw_out {c : Int} (h : c < 0 ∨ 3 < c) : cw c = 0 := by
 unfold cw; rw [if_neg (by omega), if_neg (by omega), if_neg (by omega), if_neg (by omega)]
theorem cb_out {c : Int} (h : c < 0 ∨ 3 < c) : cb c = 0 := by
 unfold cb; rw [if_neg (by omega), if_neg (by omega), if_neg (by omega), if_neg (by omega)]
theorem class_is_eq (c : Int) : class_is (c, ()) = some (decide (0 ≤ c ∧ c < 4), ()) := by
 simp only [class_is, class_is_r, Bool.cond_decide]
 by_cases h : 0 ≤ c <;> simp [h]
theorem class_Words_eq (c : Int) : class_Words (c, ()) = some (cw c, ()) := by
 rcases class_cases c with rfl | rfl | rfl | rfl | h
 ·kernel_rfl
 ·kernel_rfl
 ·kernel_rfl
 ·kernel_rfl
 ·rw [cw_out h]
  simp only [class_Words, class_Words_r, class_is_eq]
  have : ¬ (0 ≤ c ∧ c < 4) := by omega
  simp [this]
theorem words4_eq (c : Int) : r04_Words (c, ()) = some (cw c, ()) := by
 rcases class_cases c with rfl | rfl | rfl | rfl | h
 ·kernel_rfl
 ·kernel_rfl
 ·kernel_rfl
 ·kernel_rfl
 ·rw [cw_out h]
  simp only [r04_Words, r04_Words_r, Bool.cond_decide]
  by_cases h1 : c < 0
  ·simp [h1]
  ·simp [h1, show c > 3 by omega]
theorem blocks4_eq (c : Int) : r04_Blocks (c, ()) = some (cb c, ()) := by
 rcases class_cases c with rfl | rfl | rfl | rfl | h
 ·kernel_rfl
 ·kernel_rfl
 ·kernel_rfl
 ·kernel_rfl
 ·rw [cb_out h]
  simp only [r04_Blocks, r04_Blocks_r, Bool.cond_decide]
  by_cases h1 : c < 0
  ·simp [h1]
  ·simp [h1, show c > 3 by omega]
def bit (b : Int) (i : Nat) : Bool := decide (b / 2 ^ i % 2 = 1)
theorem has_eq {b : Int} (hb : 0 ≤ b) (hb' : b < 4294967296) (i : Int) : r03_Has (b, i, ()) = some (decide (0 ≤ i ∧ i ≤ 31) && bit b i.toNat, ()) := by
 simp only [r03_Has, r03_Has_r, Bool.cond_decide]
 by_cases h1 : i < 0
 ·simp [h1, show ¬ 0 ≤ i by omega]
 by_cases h2 : i > 31
 ·simp [h1, h2, show ¬ i ≤ 31 by omega]
 rw [if_neg h1, if_neg h2]
 have hr : r03_Has_l0 (b, i, 0, ()) = some (.out (b / 2 ^ i.toNat, ())) := by
  unfold r03_Has_l0
  refine iterL_run i.toNat (fun j => (b / 2 ^ j, i, (j : Int), ())) ?_ ?_ (by omega) (by simp)
  ·intro j hj
   have h0 : 0 ≤ b / 2 ^ j := Int.ediv_nonneg hb (Int.le_of_lt (Int.pow_pos (by decide)))
   have h3 : b / 2 ^ j ≤ b := Int.ediv_le_self _ hb
   simp only [r03_Has_s0, r03_Has_s0r]
   rw [show decide ((j : Int) < i) = true from decide_eq_true (by omega), cond_true, wi64_id (by omega) (by omega), Int.tdiv_eq_ediv_of_nonneg h0, wu32_id (by omega) (by omega), Int.ediv_ediv_of_nonneg (Int.le_of_lt (Int.pow_pos (by decide))), ← Int.pow_succ]
   rfl
  ·simp only [r03_Has_s0, r03_Has_s0r]
   rw [show decide ((i.toNat : Int) < i) = false from decide_eq_false (by omega)]
   rfl
 have e : (0 : Int) = ((0 : Nat) : Int) := rfl
 simp only [hr, Option.bind_some]
 rw [Int.tmod_eq_emod_of_nonneg (Int.ediv_nonneg hb (Int.le_of_lt (Int.pow_pos (by decide))))]
 simp [bit, show 0 ≤ i by omega, show i ≤ 31 by omega]
 rfl
theorem bits_lt {b : Int} (hb : 0 ≤ b) (hb' : b < 4294967296) {k : Nat} (h : ∀ i, k ≤ i → i < 32 → bit b i = false) (hk : k ≤ 32) : b < 2 ^ k := by
 have : ∀ d, d ≤ 32 - k → b < 2 ^ (32 - d) := by
  intro d
  induction d with
  | zero => intro _; exact hb'
  | succ d ih =>
   intro hd
   have h1 := ih (by omega)
   have h2 := h (32 - (d + 1)) (by omega) (by omega)
   rw [show 32 - d = (32 - (d + 1)) + 1 by omega, Int.pow_succ] at h1
   simp only [bit, decide_eq_false_iff_not] at h2
   have hp : (0 : Int) < 2 ^ (32 - (d + 1)) := Int.pow_pos (by decide)
   generalize (2 : Int) ^ (32 - (d + 1)) = p at h1 h2 hp ⊢
   have h3 : b / p < 2 := Int.ediv_lt_of_lt_mul hp (by omega)
   have h4 : 0 ≤ b / p := Int.ediv_nonneg hb (Int.le_of_lt hp)
   have h5 : b / p = 0 := by omega
   exact Int.lt_of_not_ge fun h6 => by
    have := Int.le_ediv_of_mul_le hp (show 1 * p ≤ b by omega)
    omega
 have := this (32 - k) (Nat.le_refl _)
 rwa [show 32 - (32 - k) = k by omega] at this
theorem two_pow_le {k i : Nat} (h : k ≤ i) : (2 : Int) ^ k ≤ 2 ^ i := by
 have := Nat.pow_le_pow_right (n := 2) (by decide) h
 exact_mod_cast this
theorem bit_lt {b : Int} (hb : 0 ≤ b) {i k : Nat} (h : b < 2 ^ k) (hk : k ≤ i) : bit b i = false := by
 have : b / 2 ^ i = 0 := Int.ediv_eq_zero_of_lt hb (Int.lt_of_lt_of_le h (two_pow_le hk))
 simp [bit, this]
def rightB (s : Span) : Bool := if s.1 = 0 then decide (s.2.1 = 0 ∧ s.2.2.1 = 0) else decide ((s.1 = 1 ∨ s.1 = 2) ∧ 0 ≤ s.2.1 ∧ s.2.1 ≤ 3 ∧ s.2.2.1 < 2 ^ (cb s.2.1).toNat)
theorem inUse_eq (s : Span) : r06_InUse (s, ()) = some (decide (s.1 = 1 ∨ s.1 = 2), ()) := by
 simp only [r06_InUse, r06_InUse_r, ibeq, Bool.cond_decide]
 by_cases h : s.1 = 1
 ·simp [h]
 ·simp [h]
theorem cb_le (c : Int) : 0 ≤ cb c ∧ cb c ≤ 16 := by
 unfold cb; split <;> (try split) <;> (try split) <;> (try split) <;> omega
theorem cw_le (c : Int) : 0 ≤ cw c ∧ cw c ≤ 16 := by
 unfold cw; split <;> (try split) <;> (try split) <;> (try split) <;> omega
theorem right_eq (s : Span) (h0 : 0 ≤ s.2.2.1) (h1 : s.2.2.1 < 4294967296) : r06_Right (s, ()) = some (rightB s, ()) := by
 simp only [r06_Right, r06_Right_r, inUse_eq, Option.bind_some, Bool.cond_decide, blocks4_eq, rightB, ibeq]
 by_cases hs : s.1 = 0
 ·by_cases hc : s.2.1 = 0
  ·simp [hs, hc]
  ·simp [hs, hc]
 simp only [if_neg hs]
 by_cases hu : s.1 = 1 ∨ s.1 = 2
 ·by_cases c0 : s.2.1 < 0
  ·simp [hu, c0, show ¬ 0 ≤ s.2.1 by omega]
  by_cases c3 : s.2.1 > 3
  ·simp [hu, c0, c3, show ¬ s.2.1 ≤ 3 by omega]
  have hl := cb_le s.2.1
  have : ∃ l, r06_Right_l0 (cb s.2.1, s, ()) = some l ∧ l = (if s.2.2.1 < 2 ^ (cb s.2.1).toNat then .out () else .ret (false, ())) := by
   unfold r06_Right_l0
   refine iterL_rule (fun n x => ∃ i : Nat, (cb s.2.1).toNat ≤ i ∧ i ≤ 32 ∧ n = 32 - i ∧ x = ((i : Int), s, ()) ∧ ∀ j, (cb s.2.1).toNat ≤ j → j < i → bit s.2.2.1 j = false) ?_ _ (32 - (cb s.2.1).toNat) _ (by omega) ⟨(cb s.2.1).toNat, by omega, by omega, rfl, by rw [Int.toNat_of_nonneg hl.1], fun j h2 h3 => by omega⟩
   rintro n x ⟨i, i1, i2, rfl, rfl, hi⟩
   simp only [r06_Right_s0, r06_Right_s0r, has_eq h0 h1, Option.bind_some, Bool.cond_decide]
   by_cases h : (i : Int) < 32
   ·rw [if_pos h]
    cases hb : bit s.2.2.1 i with
    | true =>
     refine .inr ⟨.ret (false, ()), by simp [hb, show (i : Int) ≤ 31 by omega], ?_⟩
     rw [if_neg]
     intro hlt
     rw [bit_lt h0 hlt i1] at hb
     cases hb
    | false =>
     refine .inl ⟨32 - (i + 1), (((i + 1 : Nat) : Int), s, ()), by omega, ?_, i + 1, by omega, by omega, rfl, rfl, fun j j1 j2 => ?_⟩
     ·simp only [Int.toNat_natCast, hb, Bool.and_false, cond_false]
      rw [wi64_id (by omega) (by omega)]; rfl
     ·by_cases e : j = i
      ·rw [e, hb]
      ·exact hi j j1 (by omega)
   ·rw [if_neg h]
    refine .inr ⟨_, rfl, ?_⟩
    rw [if_pos]
    exact bits_lt h0 h1 (fun j j1 j2 => hi j j1 (by omega)) (by omega)
  obtain ⟨l, e1, e2⟩ := this
  simp only [e1, e2, Option.bind_some]
  by_cases hlt : s.2.2.1 < 2 ^ (cb s.2.1).toNat
  ·simp [hu, c0, c3, hlt]; omega
  ·simp [hu, c0, c3, hlt]
 ·simp [hu]
end Go.Proofs.YtkjpakaidjpjgaaGreatDoor.Den
/- Pure laws: the heap's form; the program's blocks and headers. -/
namespace Go.Proofs.YtkjpakaidjpjgaaGreatDoor.Den
open Go
set_option linter.unusedVariables false
set_option linter.unusedSimpArgs false
set_option maxRecDepth 10000
def formB (h : Heap) : Bool := decide (1 ≤ h.2.1.length ∧ h.2.1.length ≤ 16 ∧ h.1.length = 32 * h.2.1.length) && h.2.1.all rightB
theorem good_span {h : Heap} (g : Good cHeap h) {s : Span} (hs : s ∈ h.2.1) : 0 ≤ s.2.2.1 ∧ s.2.2.1 < 4294967296 := by
 obtain ⟨a, b⟩ : (0 : Int) ≤ s.2.2.1 ∧ s.2.2.1 ≤ 4294967295 := (g.2.1.2 s hs).2.2.1
 omega
theorem good_word {h : Heap} (g : Good cHeap h) {w : Int} (hs : w ∈ h.1) : 0 ≤ w ∧ w < 18446744073709551616 := by
 obtain ⟨a, b⟩ : (0 : Int) ≤ w ∧ w ≤ 18446744073709551615 := g.1.2 w hs
 omega
theorem form_eq {h : Heap} (g : Good cHeap h) : r07_Form (h, ()) = some (formB h, ()) := by
 simp only [r07_Form, r07_Form_r, Bool.cond_decide, ibne, formB]
 have hl : (h.2.1.length : Int) ≤ 9223372036854775807 := Int.ofNat_le.2 g.2.1.1
 by_cases h1 : (h.2.1.length : Int) < 1
 ·simp [h1, show ¬ 1 ≤ h.2.1.length by omega]
 by_cases h2 : (h.2.1.length : Int) > 16
 ·simp [h1, h2, show ¬ h.2.1.length ≤ 16 by omega]
 rw [if_neg h1, if_neg h2, wi64_id (by omega) (by omega)]
 by_cases h3 : (h.1.length : Int) = 32 * (h.2.1.length : Int)
 ·rw [if_neg (by simpa using h3)]
  obtain ⟨l, e1, e2⟩ : ∃ l, r07_Form_l0 (0, h, ()) = some l ∧ l = (if h.2.1.all rightB then .out () else .ret (false, ())) := by
   unfold r07_Form_l0
   refine iterL_rule (fun n x => ∃ i : Nat, i ≤ h.2.1.length ∧ n = h.2.1.length - i ∧ x = ((i : Int), h, ()) ∧ ∀ j (hj : j < i) (hj' : j < h.2.1.length), rightB h.2.1[j] = true) ?_ _ h.2.1.length _ (by omega) ⟨0, by omega, rfl, rfl, fun j hj => by omega⟩
   rintro n x ⟨i, i2, rfl, rfl, hi⟩
   simp only [r07_Form_s0, r07_Form_s0r, Bool.cond_decide]
   by_cases hn : i < h.2.1.length
   ·rw [if_pos (by omega), if_pos (by omega), if_pos (by omega), Int.toNat_natCast, get_d _ _ _ hn]
    obtain ⟨b0, b1⟩ := good_span g (List.getElem_mem hn)
    rw [right_eq _ b0 b1, Option.bind_some, condn]
    cases hr : rightB h.2.1[i] with
    | true =>
     refine .inl ⟨h.2.1.length - (i + 1), (((i + 1 : Nat) : Int), h, ()), by omega, ?_, i + 1, by omega, by omega, rfl, fun j j1 j2 => ?_⟩
     ·rw [wi64_id (by omega) (by omega)]; rfl
     ·by_cases e : j = i
      ·subst e; exact hr
      ·exact hi j (by omega) j2
    | false =>
     refine .inr ⟨_, rfl, ?_⟩
     rw [if_neg]
     intro ha
     have := List.all_eq_true.1 ha _ (List.getElem_mem hn)
     rw [hr] at this; cases this
   ·rw [if_neg (by omega)]
    refine .inr ⟨_, rfl, ?_⟩
    rw [if_pos]
    rw [List.all_eq_true]
    intro s hs
    obtain ⟨j, hj, rfl⟩ := List.mem_iff_getElem.1 hs
    exact hi j (by omega) hj
  simp only [e1, e2, Option.bind_some]
  have : 1 ≤ h.2.1.length ∧ h.2.1.length ≤ 16 ∧ h.1.length = 32 * h.2.1.length := by omega
  simp only [this, decide_true, Bool.true_and]
  cases h.2.1.all rightB <;> rfl
 ·rw [if_pos h3]
  have : ¬ (1 ≤ h.2.1.length ∧ h.2.1.length ≤ 16 ∧ h.1.length = 32 * h.2.1.length) := by omega
  simp [this]
structure FormP (h : Heap) : Prop where
 n1 : 1 ≤ h.2.1.length
 n16 : h.2.1.length ≤ 16
 len : h.1.length = 32 * h.2.1.length
 right : ∀ s ∈ h.2.1, rightB s = true
 word : ∀ w ∈ h.1, 0 ≤ w ∧ w < 18446744073709551616
theorem form_of {h : Heap} (g : Good cHeap h) (hb : formB h = true) : FormP h := by
 simp only [formB, Bool.and_eq_true, decide_eq_true_eq, List.all_eq_true] at hb
 exact ⟨hb.1.1, hb.1.2.1, hb.1.2.2, hb.2, fun w hw => good_word g hw⟩
theorem FormP.span {h : Heap} (f : FormP h) {s : Span} (hs : s ∈ h.2.1) (hu : s.1 ≠ 0) : 0 ≤ s.2.1 ∧ s.2.1 ≤ 3 := by
 have := f.right s hs
 simp only [rightB, if_neg hu, decide_eq_true_eq] at this
 omega
end Go.Proofs.YtkjpakaidjpjgaaGreatDoor.Den
/- Pure laws: blocks. -/
namespace Go.Proofs.YtkjpakaidjpjgaaGreatDoor.Den
open Go
set_option linter.unusedVariables false
set_option linter.unusedSimpArgs false
set_option maxRecDepth 100000
def sz : Span := (0, 0, 0, ())
theorem page_eq (h : Heap) (p : Int) : heap_page (h, p, ()) = some (if 0 ≤ p ∧ p < h.2.1.length then (h.2.1.getD p.toNat sz, true, ()) else (sz, false, ())) := by
 simp only [heap_page, heap_page_r, Bool.cond_decide, sz]
 by_cases h1 : p < 0
 ·rw [if_pos h1, if_neg (by omega)]
 by_cases h2 : p ≥ (h.2.1.length : Int)
 ·rw [if_neg h1, if_pos h2, if_neg (by omega)]
 rw [if_neg h1, if_neg h2, if_pos (by omega), if_pos (by omega), if_pos (by omega)]
def spanOf (h : Heap) (at_ : Int) : Span := h.2.1.getD (at_ / 32).toNat sz
def fndB (h : Heap) (at_ : Int) : Bool := decide (0 ≤ at_ ∧ at_ < 32 * h.2.1.length ∧ (spanOf h at_).1 ≠ 0 ∧ at_ % cw (spanOf h at_).2.1 = 0)
def fnd (h : Heap) (at_ : Int) : Int × Int × Bool × Unit := if fndB h at_ then (at_ / 32, at_ % 32 / cw (spanOf h at_).2.1, true, ()) else (0, 0, false, ())
theorem FormP.spanAt {h : Heap} (f : FormP h) {a : Int} (h0 : 0 ≤ a) (h1 : a < 32 * h.2.1.length) (hu : (spanOf h a).1 ≠ 0) : 0 ≤ (spanOf h a).2.1 ∧ (spanOf h a).2.1 ≤ 3 := by
 have hn : (a / 32).toNat < h.2.1.length := by omega
 unfold spanOf at *
 rw [get_d _ _ _ hn] at *
 exact f.span (List.getElem_mem hn) hu
theorem cw_pos {c : Int} (h0 : 0 ≤ c) (h3 : c ≤ 3) : 2 ≤ cw c := by
 unfold cw; split <;> (try split) <;> (try split) <;> (try split) <;> omega
theorem find_eq {h : Heap} (f : FormP h) {a : Int} (l : -9223372036854775808 ≤ a) (u : a < 9223372036854775808) : heap_Find (h, a, ()) = some (fnd h a) := by
 have hn := f.n16
 simp only [heap_Find, heap_Find_r, page_eq, Option.bind_some, Bool.cond_decide, ibeq, fnd, fndB, decide_eq_true_eq]
 by_cases h0 : a < 0
 ·rw [if_pos h0, if_neg (by omega)]
 rw [if_neg h0, Int.tdiv_eq_ediv_of_nonneg (by omega), wi64_id (by omega) (by omega)]
 by_cases h1 : a < 32 * h.2.1.length
 ·rw [if_pos (by omega)]
  simp only [Bool.not_true, cond_false]
  change (if (spanOf h a).1 = 0 then _ else (arena_Place ((spanOf h a).2.1, a, ())).bind _) = _
  by_cases hu : (spanOf h a).1 = 0
  ·rw [if_pos hu, if_neg (fun h => h.2.2.1 hu)]
  rw [if_neg hu]
  obtain ⟨c0, c3⟩ := f.spanAt (by omega) h1 hu
  have hc := cw_pos c0 c3
  have hc' := cw_le (spanOf h a).2.1
  simp only [arena_Place, arena_Place_r, class_Words_eq, Option.bind_some, Bool.cond_decide, ibeq, ibne]
  generalize cw (spanOf h a).2.1 = c at *
  rw [if_neg (by omega), if_neg (by omega), if_neg (by omega), if_neg (by omega), Int.tmod_eq_emod_of_nonneg (by omega), Int.tdiv_eq_ediv_of_nonneg (by omega), Int.tmod_eq_emod_of_nonneg (by omega), Int.tdiv_eq_ediv_of_nonneg (by omega)]
  by_cases hm : a % c = 0
  ·have hd : a % 32 / c ≤ a % 32 := Int.ediv_le_self _ (by omega)
   have hd' : 0 ≤ a % 32 / c := Int.ediv_nonneg (by omega) (by omega)
   rw [if_neg (by simpa using hm), if_neg (by omega), if_pos ⟨by omega, h1, hu, hm⟩, wi64_id (by omega) (by omega), wi64_id (by omega) (by omega)]
   rfl
  ·rw [if_pos hm, if_neg (fun h => hm h.2.2.2)]
   rfl
 ·rw [if_neg (by omega)]
  simp only [Bool.not_false, cond_true]
  rw [if_neg (fun h => h1 h.2.1)]
theorem fndB_rng {h : Heap} {a : Int} (hb : fndB h a = true) : 0 ≤ a ∧ a < 32 * h.2.1.length := by
 simp only [fndB, decide_eq_true_eq] at hb; omega
end Go.Proofs.YtkjpakaidjpjgaaGreatDoor.Den
/- Pure laws: the references' objects, and painting. -/
namespace Go.Proofs.YtkjpakaidjpjgaaGreatDoor.Den
open Go
set_option linter.unusedVariables false
set_option linter.unusedSimpArgs false
set_option maxRecDepth 100000
theorem class4 {c : Int} (h0 : 0 ≤ c) (h3 : c ≤ 3) : (cw c = 2 ∧ cb c = 16) ∨ (cw c = 4 ∧ cb c = 8) ∨ (cw c = 8 ∧ cb c = 4) ∨ (cw c = 16 ∧ cb c = 2) := by
 obtain rfl | rfl | rfl | rfl : c = 0 ∨ c = 1 ∨ c = 2 ∨ c = 3 := by omega
 all_goals decide
theorem find7_l0 {h : Heap} (f : FormP h) (a : Int) (p : Nat) (hp : p < h.2.1.length) (hu : (h.2.1.getD p sz).1 ≠ 0) :
  r07_Find_l0 (a, p, 0, h, ()) = some (if 32 * (p : Int) ≤ a ∧ a < 32 * (p : Int) + 32 ∧ a % 32 % cw (h.2.1.getD p sz).2.1 = 0 then .ret (p, a % 32 / cw (h.2.1.getD p sz).2.1, true, ()) else .out (a, p, h, ())) := by
 have hn := f.n16
 have hc : 0 ≤ (h.2.1.getD p sz).2.1 ∧ (h.2.1.getD p sz).2.1 ≤ 3 := by
  rw [get_d _ _ _ hp] at *
  exact f.span (List.getElem_mem hp) hu
 have h4 := class4 hc.1 hc.2
 have key : ∃ l, r07_Find_l0 (a, p, 0, h, ()) = some l ∧ l = (if 32 * (p : Int) ≤ a ∧ a < 32 * (p : Int) + 32 ∧ a % 32 % cw (h.2.1.getD p sz).2.1 = 0 then .ret (p, a % 32 / cw (h.2.1.getD p sz).2.1, true, ()) else .out (a, p, h, ())) := by
  unfold r07_Find_l0
  refine iterL_rule (fun n x => ∃ i : Nat, (i : Int) ≤ cb (h.2.1.getD p sz).2.1 ∧ n = (cb (h.2.1.getD p sz).2.1).toNat - i ∧ x = (a, (p : Int), (i : Int), h, ()) ∧ (32 * (p : Int) ≤ a → a < 32 * (p : Int) + 32 → a % 32 % cw (h.2.1.getD p sz).2.1 = 0 → (i : Int) ≤ a % 32 / cw (h.2.1.getD p sz).2.1)) ?_ _ (cb (h.2.1.getD p sz).2.1).toNat _ (by omega) ⟨0, by omega, by omega, rfl, fun h1 h2 h3 => ?_⟩
  ·rintro n x ⟨i, i1, rfl, rfl, hi⟩
   simp only [r07_Find_s0, r07_Find_s0r, Bool.cond_decide, blocks4_eq, words4_eq, Option.bind_some, ibeq, Int.toNat_natCast]
   rw [if_pos (by omega), if_pos (by omega)]
   simp only [show ((0 : Int), (0 : Int), (0 : Int), ()) = sz from rfl]
   generalize (h.2.1.getD p sz).2.1 = c at *
   generalize cw c = w at *
   generalize cb c = b at *
   clear hc hu f
   by_cases hb : (i : Int) < b
   ·rw [if_pos hb, if_pos (by omega), if_pos (by omega)]
    have hm : 0 ≤ (i : Int) * w ∧ (i : Int) * w ≤ 32 := by
     rcases h4 with ⟨rfl, rfl⟩ | ⟨rfl, rfl⟩ | ⟨rfl, rfl⟩ | ⟨rfl, rfl⟩ <;> omega
    rw [wi64_id (n := 32 * (p : Int)) (by omega) (by omega), wi64_id (n := (i : Int) * w) (by omega) (by omega), wi64_id (by omega) (by omega)]
    by_cases e : 32 * (p : Int) + (i : Int) * w = a
    ·right
     refine ⟨_, by rw [if_pos e], ?_⟩
     rw [if_pos (by rcases h4 with ⟨rfl, rfl⟩ | ⟨rfl, rfl⟩ | ⟨rfl, rfl⟩ | ⟨rfl, rfl⟩ <;> omega)]
     have : a % 32 / w = i := by rcases h4 with ⟨rfl, rfl⟩ | ⟨rfl, rfl⟩ | ⟨rfl, rfl⟩ | ⟨rfl, rfl⟩ <;> omega
     rw [this]
    ·left
     refine ⟨(b).toNat - (i + 1), (a, (p : Int), ((i + 1 : Nat) : Int), h, ()), by omega, ?_, i + 1, by omega, rfl, rfl, fun h1 h2 h3 => ?_⟩
     ·rw [if_neg e, wi64_id (by omega) (by omega)]; rfl
     ·have := hi h1 h2 h3
      rcases h4 with ⟨rfl, rfl⟩ | ⟨rfl, rfl⟩ | ⟨rfl, rfl⟩ | ⟨rfl, rfl⟩ <;> omega
   ·right
    refine ⟨_, by rw [if_neg hb], ?_⟩
    rw [if_neg]
    rintro ⟨h1, h2, h3⟩
    have := hi h1 h2 h3
    rcases h4 with ⟨rfl, rfl⟩ | ⟨rfl, rfl⟩ | ⟨rfl, rfl⟩ | ⟨rfl, rfl⟩ <;> omega
  ·exact Int.ediv_nonneg (by omega) (by have := cw_le (h.2.1.getD p sz).2.1; omega)
 obtain ⟨l, e, rfl⟩ := key
 exact e
theorem find7_eq {h : Heap} (f : FormP h) (a : Int) : r07_Find (h, a, ()) = some (fnd h a) := by
 have hn := f.n16
 have key : ∃ l, r07_Find_l1 (a, 0, h, ()) = some l ∧ l = (if fndB h a = true then .ret (fnd h a) else .out ()) := by
  unfold r07_Find_l1
  refine iterL_rule (fun n x => ∃ p : Nat, p ≤ h.2.1.length ∧ n = h.2.1.length - p ∧ x = (a, (p : Int), h, ()) ∧ (fndB h a = true → (p : Int) ≤ a / 32)) ?_ _ h.2.1.length _ (by omega) ⟨0, by omega, rfl, rfl, fun hb => ?_⟩
  ·rintro n x ⟨p, p1, rfl, rfl, hi⟩
   simp only [r07_Find_s1, r07_Find_s1r, Bool.cond_decide, ibeq, Int.toNat_natCast]
   by_cases hp : p < h.2.1.length
   ·rw [if_pos (by omega), if_pos (by omega), if_pos (by omega)]
    simp only [show ((0 : Int), (0 : Int), (0 : Int), ()) = sz from rfl]
    have hnx : (fndB h a = true → (p : Int) ≠ a / 32) → wi64 ((p : Int) + 1) = ((p + 1 : Nat) : Int) ∧ (fndB h a = true → ((p + 1 : Nat) : Int) ≤ a / 32) := fun hh => ⟨wi64_id (by omega) (by omega), fun hb => by
     have := hi hb; have := hh hb; omega⟩
    by_cases hu : (h.2.1.getD p sz).1 = 0
    ·left
     obtain ⟨e1, e2⟩ := hnx (fun hb e => by
      simp only [fndB, decide_eq_true_eq] at hb
      have hb := hb.2.2.1
      rw [spanOf, ← e, Int.toNat_natCast] at hb
      exact hb hu)
     exact ⟨h.2.1.length - (p + 1), (a, ((p + 1 : Nat) : Int), h, ()), by omega, by rw [if_pos hu, e1], p + 1, by omega, rfl, rfl, e2⟩
    ·rw [if_neg hu, find7_l0 f a p hp hu]
     have hs : (p : Int) = a / 32 → spanOf h a = h.2.1.getD p sz := fun e => by
      unfold spanOf; rw [← e, Int.toNat_natCast]
     have hmod : a % 32 % cw (h.2.1.getD p sz).2.1 = 0 ↔ a % cw (h.2.1.getD p sz).2.1 = 0 := by
      have hc : 0 ≤ (h.2.1.getD p sz).2.1 ∧ (h.2.1.getD p sz).2.1 ≤ 3 := by
       rw [get_d _ _ _ hp] at *
       exact f.span (List.getElem_mem hp) hu
      rcases class4 hc.1 hc.2 with ⟨e1, e'⟩ | ⟨e1, e'⟩ | ⟨e1, e'⟩ | ⟨e1, e'⟩ <;> rw [e1] <;> omega
     by_cases hh : 32 * (p : Int) ≤ a ∧ a < 32 * (p : Int) + 32 ∧ a % 32 % cw (h.2.1.getD p sz).2.1 = 0
     ·right
      have e : (p : Int) = a / 32 := by omega
      have hb : fndB h a = true := by
       simp only [fndB, decide_eq_true_eq, hs e]
       exact ⟨by omega, by omega, hu, hmod.1 hh.2.2⟩
      refine ⟨_, by rw [if_pos hh]; rfl, ?_⟩
      rw [if_pos hb, fnd, if_pos hb, hs e, ← e]
     ·left
      obtain ⟨e1, e2⟩ := hnx (fun hb e => by
       simp only [fndB, decide_eq_true_eq, hs e] at hb
       exact hh ⟨by omega, by omega, hmod.2 hb.2.2.2⟩)
      exact ⟨h.2.1.length - (p + 1), (a, ((p + 1 : Nat) : Int), h, ()), by omega, by rw [if_neg hh]; simp only [Option.bind_some]; rw [e1], p + 1, by omega, rfl, rfl, e2⟩
   ·rw [if_neg (by omega)]
    right
    refine ⟨_, rfl, ?_⟩
    rw [if_neg]
    intro hb
    have := hi hb
    have := fndB_rng hb
    omega
  ·have := fndB_rng hb; omega
 obtain ⟨l, e, rfl⟩ := key
 simp only [r07_Find, r07_Find_r, e, Option.bind_some]
 by_cases hb : fndB h a = true
 ·simp only [if_pos hb]
 ·simp only [if_neg hb, fnd]
end Go.Proofs.YtkjpakaidjpjgaaGreatDoor.Den
/- Pure laws: headers. -/
namespace Go.Proofs.YtkjpakaidjpjgaaGreatDoor.Den
open Go
set_option linter.unusedVariables false
set_option linter.unusedSimpArgs false
set_option maxRecDepth 100000
def hz : Hdr := (false, false, 0, 0, ())
def hok (w : Int) : Bool := decide (128 ≤ w ∧ w < 256) && decide (w % 16 < 2 ^ ((w / 16 % 4).toNat + 1))
def hd (w : Int) : Hdr := (true, decide (w / 64 % 2 = 1), w / 16 % 4, w % 16, ())
def hget (w : Int) : Hdr × Bool × Unit := if w = 0 then (hz, true, ()) else if hok w then (hd w, true, ()) else (hz, false, ())
theorem and_mask {y : Int} (h0 : 0 ≤ y) (h1 : y < 18446744073709551616) (k : Nat) (hk : k ≤ 63) : bitsI .and .u64 y (2 ^ k - 1) = y % 2 ^ k := by
 have hp : (2 : Nat) ^ k ≤ 2 ^ 63 := Nat.pow_le_pow_right (by decide) hk
 have hp0 : 0 < (2 : Nat) ^ k := Nat.pow_pos (by decide)
 have e2 : ((2 : Int) ^ k - 1) = ((2 ^ k - 1 : Nat) : Int) := by
  rw [Int.ofNat_sub hp0]; norm_cast
 obtain ⟨m, rfl⟩ := Int.eq_ofNat_of_zero_le h0
 have hm : m < 18446744073709551616 := by omega
 have e : bitsI .and .u64 (m : Int) (2 ^ k - 1) = wu64 ((m &&& (2 ^ k - 1) : Nat) : Int) := by
  rw [e2]
  change wu64 (((BitVec.ofInt 64 (m : Int)) &&& (BitVec.ofInt 64 ((2 ^ k - 1 : Nat) : Int))).toNat : Int) = _
  rw [BitVec.ofInt_natCast, BitVec.ofInt_natCast, BitVec.toNat_and, BitVec.toNat_ofNat, BitVec.toNat_ofNat]
  rw [Nat.mod_eq_of_lt (by omega : m < 2 ^ 64), Nat.mod_eq_of_lt (by omega : 2 ^ k - 1 < 2 ^ 64)]
 rw [e, Nat.and_two_pow_sub_one_eq_mod]
 have : m % 2 ^ k < 2 ^ k := Nat.mod_lt _ hp0
 rw [wu64_id (by omega) (by omega), Int.natCast_emod, Int.natCast_pow]; rfl
theorem put_small : ∀ (u c : Bool) (k n : Nat), k < 4 → n < 16 → ∃ v ok, header_Put ((u, c, (k : Int), (n : Int), ()), ()) = some (v, ok, ()) ∧ 0 ≤ v ∧ v < 256 := by
 have : ([true, false].all fun u => [true, false].all fun c => (List.range 4).all fun k => (List.range 16).all fun n =>
  match header_Put ((u, c, (k : Int), (n : Int), ()), ()) with
  | some (v, _, _) => decide (0 ≤ v ∧ v < 256)
  | none => false) = true := by kernel_rfl
 intro u c k n hk hn
 simp only [List.all_eq_true] at this
 have h := this u (by cases u <;> simp) c (by cases c <;> simp) k (by simpa using hk) n (by simpa using hn)
 split at h
 ·rename_i v ok x e
  exact ⟨v, ok, e, of_decide_eq_true h⟩
 ·cases h
theorem hget_big {w : Int} (h : 256 ≤ w) : hget w = (hz, false, ()) := by
 unfold hget hok
 rw [if_neg (by omega)]
 simp [show ¬ w < 256 by omega]
end Go.Proofs.YtkjpakaidjpjgaaGreatDoor.Den
/- Pure laws: objects. -/
namespace Go.Proofs.YtkjpakaidjpjgaaGreatDoor.Den
open Go
set_option linter.unusedVariables false
set_option linter.unusedSimpArgs false
set_option maxRecDepth 100000
theorem hget_small : ∀ n : Nat, n < 256 → header_Get ((n : Int), ()) = some (hget n) := by
 have : ((List.range 256).all fun n => decide (header_Get ((n : Int), ()) = some (hget n))) = true := by kernel_rfl
 intro n hn
 exact of_decide_eq_true (List.all_eq_true.1 this n (by simpa using hn))
theorem headerGet_eq {w : Int} (h0 : 0 ≤ w) (h1 : w < 18446744073709551616) : header_Get (w, ()) = some (hget w) := by
 by_cases h : w < 256
 ·obtain ⟨n, rfl⟩ := Int.eq_ofNat_of_zero_le h0
  exact hget_small n (by omega)
 rw [hget_big (by omega)]
 simp only [header_Get, header_Get_r, ibne]
 have e4 : shiftI false .u64 w 4 = w / 16 := by
  simp only [shiftI, cond_false, IntKind.bits]
  rw [Int.fdiv_eq_ediv_of_nonneg _ (by decide)]
  rfl
 have e0 : shiftI false .u64 w 0 = w := by
  simp only [shiftI, cond_false, IntKind.bits]
  rw [Int.fdiv_eq_ediv_of_nonneg _ (by decide)]
  simp
 rw [e4, e0]
 have m3 := and_mask (y := w / 16) (by omega) (by omega) 2 (by omega)
 have m15 := and_mask h0 h1 4 (by omega)
 simp only [Int.reducePow, Int.reduceSub] at m3 m15
 rw [m3, m15, wi64_id (by omega) (by omega), wi64_id (by omega) (by omega)]
 generalize hk : w / 16 % 4 = k
 generalize hn : w % 16 = n
 obtain ⟨k, rfl⟩ := Int.eq_ofNat_of_zero_le (show 0 ≤ k by omega)
 obtain ⟨n, rfl⟩ := Int.eq_ofNat_of_zero_le (show 0 ≤ n by omega)
 obtain ⟨v, ok, e, v0, v1⟩ := put_small (decide (¬ bitsI .and .u64 w 128 = 0)) (decide (¬ bitsI .and .u64 w 64 = 0)) k n (by omega) (by omega)
 rw [e]
 simp only [Option.bind_some]
 cases ok
 ·rfl
 ·simp only [Bool.not_true, cond_false, Bool.cond_decide]
  rw [if_pos (by omega)]; rfl
def og (h : Heap) (a : Int) : Hdr × Bool × Unit := if fndB h a && hok (h.1.getD a.toNat 0) && decide (a % 32 + h.1.getD a.toNat 0 % 16 < 32) then (hd (h.1.getD a.toNat 0), true, ()) else (hz, false, ())
theorem word_at {h : Heap} (f : FormP h) (a : Nat) : 0 ≤ h.1.getD a 0 ∧ h.1.getD a 0 < 18446744073709551616 := by
 by_cases h1 : a < h.1.length
 ·rw [get_d _ _ _ h1]; exact f.word _ (List.getElem_mem h1)
 ·rw [List.getD, List.getElem?_eq_none (by omega)]; simp
theorem objGet_eq {h : Heap} (f : FormP h) {a : Int} (l : -9223372036854775808 ≤ a) (u : a < 9223372036854775808) : object_Get (h, a, ()) = some (og h a) := by
 have hn := f.n16
 have hl := f.len
 simp only [object_Get, object_Get_r, find_eq f l u, Option.bind_some, Bool.cond_decide, og, fnd]
 cases hb : fndB h a with
 | false => rfl
 | true =>
  obtain ⟨a0, a1⟩ := fndB_rng hb
  obtain ⟨w0, w1⟩ := word_at f a.toNat
  simp only [if_true, Bool.not_true, cond_false]
  rw [if_pos a0, if_pos (by omega), headerGet_eq w0 w1]
  generalize h.1.getD a.toNat 0 = w at *
  simp only [Option.bind_some, hget]
  by_cases hw : w = 0
  ·subst hw; rfl
  rw [if_neg hw]
  cases hk : hok w with
  | false => rfl
  | true =>
   simp only [if_true, Bool.not_true, cond_false, hd, Bool.true_and, Bool.and_self, decide_eq_true_eq]
   rw [wi64_id (n := a / 32 + 1) (by omega) (by omega), wi64_id (n := a + _) (by omega) (by omega), wi64_id (n := _ * 32) (by omega) (by omega)]
   by_cases hc : a % 32 + w % 16 < 32
   ·rw [if_neg (by omega), if_pos hc]
   ·rw [if_pos (by omega), if_neg hc]; rfl
theorem og_rng {h : Heap} {a : Int} (f : FormP h) (ho : (og h a).2.1 = true) : 0 ≤ a ∧ a % 32 + (og h a).1.2.2.2.1 < 32 ∧ 0 ≤ (og h a).1.2.2.2.1 ∧ a < 32 * h.2.1.length ∧ (og h a).1.2.2.2.1 ≤ 15 := by
 unfold og at *
 split at ho
 ·rename_i hc
  simp only [hc, if_true, hd]
  simp only [Bool.and_eq_true, decide_eq_true_eq] at hc
  have := fndB_rng hc.1.1
  omega
 ·cases ho
end Go.Proofs.YtkjpakaidjpjgaaGreatDoor.Den
/- Pure laws: the references' headers. -/
namespace Go.Proofs.YtkjpakaidjpjgaaGreatDoor.Den
open Go
set_option linter.unusedVariables false
set_option linter.unusedSimpArgs false
set_option maxRecDepth 100000
theorem put2_small : ∀ (c : Bool) (k n : Nat), k < 4 → n < 16 → ∃ m v, r02_May ((true, c, (k : Int), (n : Int), ()), ()) = some (m, ()) ∧ r02_Put ((true, c, (k : Int), (n : Int), ()), ()) = some (v, ()) ∧ 0 ≤ v ∧ v < 256 := by
 have : ([true, false].all fun c => (List.range 4).all fun k => (List.range 16).all fun n =>
  match r02_May ((true, c, (k : Int), (n : Int), ()), ()), r02_Put ((true, c, (k : Int), (n : Int), ()), ()) with
  | some _, some (v, _) => decide (0 ≤ v ∧ v < 256)
  | _, _ => false) = true := by kernel_rfl
 intro c k n hk hn
 simp only [List.all_eq_true] at this
 have h := this c (by cases c <;> simp) k (by simpa using hk) n (by simpa using hn)
 split at h
 ·rename_i m v x e1 e2
  exact ⟨m.1, v, e1, e2, of_decide_eq_true h⟩
 ·cases h
theorem hget2_small : ∀ n : Nat, n < 256 → r02_Get ((n : Int), ()) = some (hget n) := by
 have : ((List.range 256).all fun n => decide (r02_Get ((n : Int), ()) = some (hget n))) = true := by kernel_rfl
 intro n hn
 exact of_decide_eq_true (List.all_eq_true.1 this n (by simpa using hn))
theorem get2_l0 {w : Int} (hw : 256 ≤ w) {k n : Nat} (hk : k < 4) (hn : n < 16) (c : Hdr) : r02_Get_l0 (w, k, n, 0, c, ()) = some (.out (w, k, n, c, ())) := by
 unfold r02_Get_l0
 refine iterL_run 2 (fun i => (w, (k : Int), (n : Int), (i : Int), c, ())) (fun i hi => ?_) rfl (by omega) rfl
 obtain ⟨m, v, e1, e2, v0, v1⟩ := put2_small (decide ((i : Int) = 1)) k n hk hn
 simp only [r02_Get_s0, r02_Get_s0r, Bool.cond_decide, e1, e2, Option.bind_some, ibeq]
 rw [if_pos (by omega), if_neg (by omega), wi64_id (by omega) (by omega)]
 cases m <;> rfl
theorem get2_l1 {w : Int} (hw : 256 ≤ w) {k : Nat} (hk : k < 4) (c : Hdr) : r02_Get_l1 (w, k, 0, c, ()) = some (.out (w, k, c, ())) := by
 unfold r02_Get_l1
 refine iterL_run 16 (fun i => (w, (k : Int), (i : Int), c, ())) (fun i hi => ?_) rfl (by omega) rfl
 simp only [r02_Get_s1, r02_Get_s1r, Bool.cond_decide, get2_l0 hw hk hi, Option.bind_some]
 rw [if_pos (by omega), wi64_id (by omega) (by omega)]
 rfl
theorem get2_l2 {w : Int} (hw : 256 ≤ w) (c : Hdr) : r02_Get_l2 (w, 0, c, ()) = some (.out (c, ())) := by
 unfold r02_Get_l2
 refine iterL_run 4 (fun i => (w, (i : Int), c, ())) (fun i hi => ?_) rfl (by omega) rfl
 simp only [r02_Get_s2, r02_Get_s2r, Bool.cond_decide, get2_l1 hw hi, Option.bind_some]
 rw [if_pos (by omega), wi64_id (by omega) (by omega)]
 rfl
theorem headerGet2_eq {w : Int} (h0 : 0 ≤ w) : r02_Get (w, ()) = some (hget w) := by
 by_cases h : w < 256
 ·obtain ⟨n, rfl⟩ := Int.eq_ofNat_of_zero_le h0
  exact hget2_small n (by omega)
 rw [hget_big (by omega)]
 simp only [r02_Get, r02_Get_r, ibeq, Bool.cond_decide, get2_l2 (show 256 ≤ w by omega), Option.bind_some]
 rw [if_neg (by omega)]; rfl
end Go.Proofs.YtkjpakaidjpjgaaGreatDoor.Den
/- Pure laws: the references' objects. -/
namespace Go.Proofs.YtkjpakaidjpjgaaGreatDoor.Den
open Go
set_option linter.unusedVariables false
set_option linter.unusedSimpArgs false
set_option maxRecDepth 100000
theorem objGet8_eq {h : Heap} (f : FormP h) (a : Int) : r08_Get (h, a, ()) = some (og h a) := by
 have hn := f.n16
 have hl := f.len
 simp only [r08_Get, r08_Get_r, find7_eq f a, Option.bind_some, Bool.cond_decide, og, fnd]
 cases hb : fndB h a with
 | false => rfl
 | true =>
  obtain ⟨a0, a1⟩ := fndB_rng hb
  obtain ⟨w0, w1⟩ := word_at f a.toNat
  simp only [if_true, Bool.not_true, cond_false]
  rw [if_pos a0, if_pos (by omega), headerGet2_eq w0]
  generalize h.1.getD a.toNat 0 = w at *
  simp only [Option.bind_some, hget]
  by_cases hw : w = 0
  ·subst hw; rfl
  rw [if_neg hw]
  cases hk : hok w with
  | false => rfl
  | true =>
   simp only [if_true, Bool.not_true, cond_false, hd, Bool.true_and, Bool.and_self, decide_eq_true_eq]
   rw [Int.tdiv_eq_ediv_of_nonneg a0, wi64_id (n := a / 32) (by omega) (by omega), wi64_id (n := a + _) (by omega) (by omega), wi64_id (n := 32 * _) (by omega) (by omega), wi64_id (by omega) (by omega)]
   by_cases hc : a % 32 + w % 16 < 32
   ·rw [if_neg (by omega), if_pos hc]
   ·rw [if_pos (by omega), if_neg hc]; rfl
def bk (h : Heap) (a : Int) : Bool := (og h a).2.1 && ((og h a).1.2.1 == h.2.2.1)
theorem black_eq {h : Heap} (f : FormP h) {a : Int} (l : -9223372036854775808 ≤ a) (u : a < 9223372036854775808) : object_Black (h, a, ()) = some (bk h a, ()) := by
 simp only [object_Black, object_Black_r, objGet_eq f l u, Option.bind_some, bk]
 by_cases e : (og h a).2.1 = true
 ·simp only [e, cond_true, Bool.true_and]
 ·simp only [Bool.not_eq_true] at e
  simp only [e, cond_false, Bool.false_and]
theorem black8_eq {h : Heap} (f : FormP h) (a : Int) : r08_Black (h, a, ()) = some (bk h a, ()) := by
 simp only [r08_Black, r08_Black_r, objGet8_eq f a, Option.bind_some, bk]
 by_cases e : (og h a).2.1 = true
 ·simp only [e, cond_true, Bool.true_and]
 ·simp only [Bool.not_eq_true] at e
  simp only [e, cond_false, Bool.false_and]
end Go.Proofs.YtkjpakaidjpjgaaGreatDoor.Den
/- Pure laws: painting, rows of objects, shading. -/
namespace Go.Proofs.YtkjpakaidjpjgaaGreatDoor.Den
open Go
set_option linter.unusedVariables false
set_option linter.unusedSimpArgs false
set_option maxRecDepth 100000
def pw (s : Bool) (w : Int) : Int := 128 + (bif s then 64 else 0) + w % 64
theorem pw_rng (s : Bool) (w : Int) : 128 ≤ pw s w ∧ pw s w < 256 := by
 unfold pw; cases s <;> simp only [cond_true, cond_false] <;> omega
theorem hok_rng {w : Int} (h : hok w = true) : 128 ≤ w ∧ w < 256 := by
 simp only [hok, Bool.and_eq_true, decide_eq_true_eq] at h; omega
theorem pw_put : ∀ n : Nat, n < 256 → ∀ s : Bool, hok n = true → header_Put ((true, s, (n : Int) / 16 % 4, (n : Int) % 16, ()), ()) = some (pw s n, true, ()) ∧ r02_Put ((true, s, (n : Int) / 16 % 4, (n : Int) % 16, ()), ()) = some (pw s n, ()) := by
 have : ((List.range 256).all fun n => [true, false].all fun s => !hok n || (decide (header_Put ((true, s, (n : Int) / 16 % 4, (n : Int) % 16, ()), ()) = some (pw s n, true, ())) && decide (r02_Put ((true, s, (n : Int) / 16 % 4, (n : Int) % 16, ()), ()) = some (pw s n, ())))) = true := by kernel_rfl
 intro n hn s hk
 simp only [List.all_eq_true] at this
 have h := this n (by simpa using hn) s (by cases s <;> simp)
 rw [hk] at h
 simp only [Bool.not_true, Bool.false_or, Bool.and_eq_true, decide_eq_true_eq] at h
 exact h
theorem pw_put' {w : Int} (hk : hok w = true) (s : Bool) : header_Put ((true, s, w / 16 % 4, w % 16, ()), ()) = some (pw s w, true, ()) ∧ r02_Put ((true, s, w / 16 % 4, w % 16, ()), ()) = some (pw s w, ()) := by
 have := hok_rng hk
 obtain ⟨n, rfl⟩ := Int.eq_ofNat_of_zero_le (show 0 ≤ w by omega)
 exact pw_put n (by omega) s hk
theorem og_ok {h : Heap} {a : Int} (e : (og h a).2.1 = true) : fndB h a = true ∧ hok (h.1.getD a.toNat 0) = true ∧ a % 32 + h.1.getD a.toNat 0 % 16 < 32 ∧ og h a = (hd (h.1.getD a.toNat 0), true, ()) := by
 unfold og at *
 split at e
 ·rename_i hc
  rw [if_pos hc]
  simp only [Bool.and_eq_true, decide_eq_true_eq] at hc
  exact ⟨hc.1.1, hc.1.2, hc.2, rfl⟩
 ·cases e
def nh (h : Heap) (a : Int) : Heap := (h.1.set a.toNat (pw h.2.2.1 (h.1.getD a.toNat 0)), h.2.1, h.2.2)
theorem paint_eq {h : Heap} (f : FormP h) {a : Int} (l : -9223372036854775808 ≤ a) (u : a < 9223372036854775808) : object_Paint (h, a, ()) = some (if (og h a).2.1 = true then (nh h a, true, ()) else (h, false, ())) := by
 have hn := f.n16
 have hl := f.len
 simp only [object_Paint, object_Paint_r, objGet_eq f l u, Option.bind_some]
 by_cases e : (og h a).2.1 = true
 ·obtain ⟨e1, e2, e3, e4⟩ := og_ok e
  have := fndB_rng e1
  rw [if_pos e, e4]
  simp only [Bool.not_true, cond_false, hd, (pw_put' e2 _).1, Option.bind_some, object_with, object_with_r, slices_Clone_uint64, slices_Clone_api_Span, cloneF, Bool.cond_decide]
  rw [if_pos (by omega), Option.bind_some, if_pos (by omega), Option.bind_some]
  simp only []
  rw [if_pos (by omega), if_pos (by omega)]
  rfl
 ·rw [if_neg e]
  simp only [Bool.not_eq_true] at e
  simp only [e, Bool.not_false, cond_true]
theorem FormP.nh {h : Heap} (f : FormP h) (a : Int) : FormP (nh h a) := by
 refine ⟨f.n1, f.n16, ?_, f.right, fun w hw => ?_⟩
 ·show (h.1.set _ _).length = _
  rw [List.length_set]; exact f.len
 ·rcases List.mem_or_eq_of_mem_set hw with hw | rfl
  ·exact f.word w hw
  ·have := pw_rng h.2.2.1 (h.1.getD a.toNat 0); omega
structure GreyP (g : Grey) : Prop where
 r0 : 0 ≤ g.1
 r16 : g.1 ≤ 16
 len : (g.2.1.length : Int) ≤ g.1
def gp (g : Grey) (a : Int) : Grey × Bool × Unit := if a < 0 ∨ g.1 ≤ g.2.1.length then (g, false, ()) else ((g.1, g.2.1 ++ [a], ()), true, ())
theorem push_eq {g : Grey} (p : GreyP g) (a : Int) : grey_Push (g, a, ()) = some (gp g a) := by
 have h1 := p.r16
 have h2 := p.len
 simp only [grey_Push, grey_Push_r, Bool.cond_decide, ibeq, gp]
 by_cases e : (g.2.1.length : Int) ≥ g.1
 ·rw [if_pos e, if_pos (.inr e)]
 rw [if_neg e]
 by_cases e' : a < 0
 ·rw [if_pos e', if_pos (.inl e')]
 rw [if_neg e', if_neg (show ¬ (a < 0 ∨ g.1 ≤ g.2.1.length) by omega)]
 simp only [List.drop_zero, Int.toNat_natCast, Nat.sub_zero, List.take_length, if_true, Bool.or_true, cond_true]
 rw [if_pos (by omega), if_pos (by omega), if_pos (by omega)]
theorem GreyP.gp {g : Grey} (p : GreyP g) (a : Int) : GreyP (gp g a).1 := by
 unfold Den.gp
 split
 ·exact p
 ·rename_i h
  refine ⟨p.r0, p.r16, ?_⟩
  show ((g.2.1 ++ [a]).length : Int) ≤ g.1
  rw [List.length_append]
  simp only [List.length_singleton]
  omega
abbrev ShT : Type := Heap × Grey × Bool × Unit
def sh (h : Heap) (g : Grey) (v : Val) : ShT := if v.1 = 2 ∧ (og h v.2.1).2.1 = true ∧ bk h v.2.1 = false then (nh h v.2.1, (gp g v.2.1).1, !(gp g v.2.1).2.1, ()) else (h, g, false, ())
theorem shade_eq {h : Heap} (f : FormP h) {g : Grey} (p : GreyP g) {v : Val} (l : -9223372036854775808 ≤ v.2.1) (u : v.2.1 < 9223372036854775808) : shade_Shade (h, g, v, ()) = some (sh h g v) := by
 simp only [shade_Shade, shade_Shade_r, Bool.cond_decide, ibne, black_eq f l u, paint_eq f l u, push_eq p, Option.bind_some, sh]
 by_cases e : v.1 = 2
 ·rw [if_neg (by simpa using e)]
  cases hb : bk h v.2.1 with
  | true => simp
  | false =>
   simp only [cond_false]
   by_cases ho : (og h v.2.1).2.1 = true
   ·simp only [if_pos ho, Bool.not_true, cond_false]
    rw [if_pos ⟨e, ho, trivial⟩]
   ·rw [if_neg ho]
    simp only [Bool.not_false, cond_true]
    rw [if_neg (fun hh => ho hh.2.1)]
 ·rw [if_pos e, if_neg (fun h => e h.1)]
end Go.Proofs.YtkjpakaidjpjgaaGreatDoor.Den
/- Pure laws: alike. -/
namespace Go.Proofs.YtkjpakaidjpjgaaGreatDoor.Den
open Go
set_option linter.unusedVariables false
set_option linter.unusedSimpArgs false
set_option maxRecDepth 100000
theorem list_eq_of {α : Type} {a b : List α} (hl : a.length = b.length) (h : ∀ j (ha : j < a.length) (hb : j < b.length), a[j] = b[j]) : a = b :=
 List.ext_getElem hl h
end Go.Proofs.YtkjpakaidjpjgaaGreatDoor.Den
/- Pure laws: rows alike, right. -/
namespace Go.Proofs.YtkjpakaidjpjgaaGreatDoor.Den
open Go
set_option linter.unusedVariables false
set_option linter.unusedSimpArgs false
set_option maxRecDepth 100000
def grB (g : Grey) : Bool := decide (0 ≤ g.1 ∧ g.1 ≤ 16 ∧ (g.2.1.length : Int) ≤ g.1) && g.2.1.all fun n => decide (0 ≤ n)
theorem greyRight_eq (g : Grey) : r13_Right (g, ()) = some (grB g, ()) := by
 simp only [r13_Right, r13_Right_r, Bool.cond_decide, grB]
 by_cases h1 : g.1 < 0
 ·rw [if_pos h1]; simp [show ¬ 0 ≤ g.1 by omega]
 by_cases h2 : g.1 > 16
 ·rw [if_neg h1, if_pos h2]; simp [show ¬ g.1 ≤ 16 by omega]
 by_cases h3 : (g.2.1.length : Int) > g.1
 ·rw [if_neg h1, if_neg h2, if_pos h3]; simp [show ¬ (g.2.1.length : Int) ≤ g.1 by omega]
 rw [if_neg h1, if_neg h2, if_neg h3]
 have key : ∃ l, r13_Right_l0 (0, g, ()) = some l ∧ l = (if (g.2.1.all fun n => decide (0 ≤ n)) = true then .out () else .ret (false, ())) := by
  unfold r13_Right_l0
  refine iterL_rule (fun n x => ∃ i : Nat, i ≤ g.2.1.length ∧ n = g.2.1.length - i ∧ x = ((i : Int), g, ()) ∧ ∀ j (h1 : j < g.2.1.length), j < i → 0 ≤ g.2.1[j]) ?_ _ g.2.1.length _ (by omega) ⟨0, by omega, rfl, rfl, fun j _ hj => by omega⟩
  rintro n x ⟨i, i1, rfl, rfl, hi⟩
  simp only [r13_Right_s0, r13_Right_s0r, Bool.cond_decide]
  by_cases hn : i < g.2.1.length
  ·rw [if_pos (by omega), if_pos (by omega), if_pos (by omega), Int.toNat_natCast, get_d _ _ _ hn]
   by_cases e : g.2.1[i] < 0
   ·rw [if_pos e]
    refine .inr ⟨_, rfl, ?_⟩
    rw [if_neg]
    intro h
    have := List.all_eq_true.1 h _ (List.getElem_mem hn)
    simp only [decide_eq_true_eq] at this
    omega
   ·rw [if_neg e, wi64_id (by omega) (by omega)]
    refine .inl ⟨g.2.1.length - (i + 1), (((i + 1 : Nat) : Int), g, ()), by omega, rfl, i + 1, by omega, rfl, rfl, fun j h1 h3 => ?_⟩
    by_cases e' : j = i
    ·subst e'; omega
    ·exact hi j h1 (by omega)
  ·rw [if_neg (by omega)]
   refine .inr ⟨_, rfl, ?_⟩
   rw [if_pos]
   rw [List.all_eq_true]
   intro x hx
   obtain ⟨j, hj, rfl⟩ := List.mem_iff_getElem.1 hx
   simpa using hi j hj (by omega)
 obtain ⟨l, e, rfl⟩ := key
 rw [e]
 have : (0 : Int) ≤ g.1 ∧ g.1 ≤ 16 ∧ (g.2.1.length : Int) ≤ g.1 := by omega
 simp only [this, and_self, decide_true, Bool.true_and, Option.bind_some]
 cases (g.2.1.all fun n => decide (0 ≤ n)) <;> rfl
theorem grey_of {g : Grey} (h : grB g = true) : GreyP g ∧ ∀ n ∈ g.2.1, 0 ≤ n := by
 simp only [grB, Bool.and_eq_true, decide_eq_true_eq, List.all_eq_true] at h
 exact ⟨⟨h.1.1, h.1.2.1, h.1.2.2⟩, h.2⟩
end Go.Proofs.YtkjpakaidjpjgaaGreatDoor.Den
/- Pure laws: what is painted. -/
namespace Go.Proofs.YtkjpakaidjpjgaaGreatDoor.Den
open Go
set_option linter.unusedVariables false
set_option linter.unusedSimpArgs false
set_option maxRecDepth 100000
def pn (h : Heap) (S : Int → Bool) : Heap := (h.1.mapIdx (fun i w => if (S (i : Int) && (og h (i : Int)).2.1) = true then pw h.2.2.1 w else w), h.2.1, h.2.2)
theorem pn_len (h : Heap) (S : Int → Bool) : (pn h S).1.length = h.1.length := by
 simp [pn]
theorem pn_word (h : Heap) (S : Int → Bool) (i : Nat) (hi : i < h.1.length) : (pn h S).1.getD i 0 = if (S (i : Int) && (og h (i : Int)).2.1) = true then pw h.2.2.1 (h.1.getD i 0) else h.1.getD i 0 := by
 rw [get_d _ _ _ (by rw [pn_len]; exact hi), get_d _ _ _ hi]
 simp [pn]
theorem pw_hok {s : Bool} {w : Int} (h : hok w = true) : hok (pw s w) = true := by
 have h1 := hok_rng h
 have h2 := pw_rng s w
 simp only [hok, Bool.and_eq_true, decide_eq_true_eq] at h ⊢
 have e1 : pw s w % 16 = w % 16 := by unfold pw; cases s <;> simp only [cond_true, cond_false] <;> omega
 have e2 : pw s w / 16 % 4 = w / 16 % 4 := by unfold pw; cases s <;> simp only [cond_true, cond_false] <;> omega
 rw [e1, e2]
 exact ⟨by omega, h.2⟩
theorem pw_hd (s : Bool) (w : Int) : hd (pw s w) = (true, s, w / 16 % 4, w % 16, ()) := by
 have e1 : pw s w % 16 = w % 16 := by unfold pw; cases s <;> simp only [cond_true, cond_false] <;> omega
 have e2 : pw s w / 16 % 4 = w / 16 % 4 := by unfold pw; cases s <;> simp only [cond_true, cond_false] <;> omega
 have e3 : decide (pw s w / 64 % 2 = 1) = s := by
  unfold pw; cases s <;> simp only [cond_true, cond_false]
  ·exact decide_eq_false (by omega)
  ·exact decide_eq_true (by omega)
 unfold hd
 rw [e1, e2, e3]
theorem pw_pw (s : Bool) (w : Int) : pw s (pw s w) = pw s w := by
 unfold pw; cases s <;> simp only [cond_true, cond_false] <;> omega
theorem fndB_pn (h : Heap) (S : Int → Bool) (a : Int) : fndB (pn h S) a = fndB h a := rfl
theorem og_pn {h : Heap} (f : FormP h) (S : Int → Bool) (a : Int) : og (pn h S) a = if (og h a).2.1 = true then ((true, (if S a = true then h.2.2.1 else (og h a).1.2.1), (og h a).1.2.2.1, (og h a).1.2.2.2.1, ()), true, ()) else (hz, false, ()) := by
 have hl := f.len
 by_cases hb : fndB h a = true
 ·have hr := fndB_rng hb
  obtain ⟨i, rfl⟩ := Int.eq_ofNat_of_zero_le hr.1
  by_cases ho : (og h (i : Int)).2.1 = true
  ·obtain ⟨e1, e2, e3, e4⟩ := og_ok ho
   rw [if_pos ho]
   simp only [Int.toNat_natCast] at e2 e3 e4
   have hw : (pn h S).1.getD i 0 = if S (i : Int) = true then pw h.2.2.1 (h.1.getD i 0) else h.1.getD i 0 := by
    rw [pn_word _ _ _ (by omega), ho, Bool.and_true]
   have h16 : (pn h S).1.getD i 0 % 16 = h.1.getD i 0 % 16 := by
    rw [hw]; split
    ·unfold pw; cases h.2.2.1 <;> simp only [cond_true, cond_false] <;> omega
    ·rfl
   have hk : hok ((pn h S).1.getD i 0) = true := by
    rw [hw]; split
    ·exact pw_hok e2
    ·exact e2
   rw [e4]
   unfold og
   rw [fndB_pn, hb, Int.toNat_natCast, hk, h16, if_pos (by simpa using e3), hw]
   by_cases hS : S (i : Int) = true
   ·simp only [if_pos hS, pw_hd]; rfl
   ·simp only [if_neg hS]; rfl
  ·rw [if_neg ho]
   have hw : (pn h S).1.getD i 0 = h.1.getD i 0 := by
    rw [pn_word _ _ _ (by omega)]
    simp only [Bool.not_eq_true] at ho
    rw [ho, Bool.and_false, if_neg (by decide)]
   have : og (pn h S) (i : Int) = og h (i : Int) := by
    unfold og
    rw [fndB_pn, Int.toNat_natCast, hw]
   rw [this]
   unfold og at ho ⊢
   split at ho
   ·exact absurd rfl ho
   ·rename_i hc; rw [if_neg hc]
 ·have : (og h a).2.1 = false := by
   unfold og; rw [if_neg (by simp [hb])]
  rw [this, if_neg (by decide)]
  unfold og
  rw [fndB_pn, if_neg (by simp [hb])]
theorem ok_pn {h : Heap} (f : FormP h) (S : Int → Bool) (a : Int) : (og (pn h S) a).2.1 = (og h a).2.1 := by
 rw [og_pn f]
 cases e : (og h a).2.1 <;> rfl
theorem bk_pn {h : Heap} (f : FormP h) (S : Int → Bool) (a : Int) : bk (pn h S) a = ((og h a).2.1 && (S a || bk h a)) := by
 unfold bk
 rw [og_pn f]
 cases e : (og h a).2.1
 ·simp
 ·cases e' : S a
  ·simp; rfl
  ·simp [pn]
theorem FormP.pn {h : Heap} (f : FormP h) (S : Int → Bool) : FormP (pn h S) := by
 refine ⟨f.n1, f.n16, ?_, f.right, fun w hw => ?_⟩
 ·rw [pn_len]; exact f.len
 ·obtain ⟨i, hi, rfl⟩ := List.mem_iff_getElem.1 hw
  have hi' := hi
  rw [pn_len] at hi'
  have := pn_word h S i hi'
  rw [get_d _ _ _ hi] at this
  rw [this]
  split
  ·have := pw_rng h.2.2.1 (h.1.getD i 0); omega
  ·exact word_at f i
theorem heap_ext {a b : Heap} (hl : a.1.length = b.1.length) (hw : ∀ i, i < a.1.length → a.1.getD i 0 = b.1.getD i 0) (h2 : a.2 = b.2) : a = b := by
 refine Prod.ext (list_eq_of hl fun j h1 h2 => ?_) h2
 have := hw j h1
 rw [get_d _ _ _ h1, get_d _ _ _ h2] at this
 exact this
theorem pn_pn {h : Heap} (f : FormP h) (S T : Int → Bool) : pn (pn h S) T = pn h (fun a => S a || T a) := by
 refine heap_ext (by rw [pn_len, pn_len, pn_len]) (fun i hi => ?_) rfl
 rw [pn_len, pn_len] at hi
 rw [pn_word _ _ _ (by rw [pn_len]; exact hi), pn_word _ _ _ hi, pn_word _ _ _ hi, ok_pn f]
 have hs : (pn h S).2.2.1 = h.2.2.1 := rfl
 rw [hs]
 cases (og h (i : Int)).2.1
 ·simp
 ·cases S (i : Int)
  ·simp
  ·cases T (i : Int)
   ·simp
   ·simp [pw_pw]
theorem pn_none {h : Heap} : pn h (fun _ => false) = h := by
 refine heap_ext (by rw [pn_len]) (fun i hi => ?_) rfl
 rw [pn_len] at hi
 rw [pn_word _ _ _ hi]; simp
theorem nh_pn {h : Heap} (f : FormP h) {a : Int} (ho : (og h a).2.1 = true) : nh h a = pn h (fun b => a == b) := by
 obtain ⟨e1, e2, e3, e4⟩ := og_ok ho
 have hr := fndB_rng e1
 have hl := f.len
 obtain ⟨k, rfl⟩ := Int.eq_ofNat_of_zero_le hr.1
 refine heap_ext (by rw [pn_len]; show (h.1.set _ _).length = _; rw [List.length_set]) (fun i hi => ?_) rfl
 have hi : i < h.1.length := by
  have : (nh h (k : Int)).1.length = h.1.length := by show (h.1.set _ _).length = _; rw [List.length_set]
  omega
 rw [pn_word _ _ _ hi]
 show (h.1.set _ _).getD i 0 = _
 rw [get_d _ _ _ (by rw [List.length_set]; exact hi), List.getElem_set, Int.toNat_natCast]
 by_cases e : k = i
 ·subst e
  rw [if_pos rfl, ho]; simp
 ·rw [if_neg e]
  have : ((k : Int) == (i : Int)) = false := by rw [ibeq]; exact decide_eq_false (by omega)
  rw [this, Bool.false_and, if_neg (by decide), get_d _ _ _ hi]
def one (v : Val) (p : Int) : Bool := v.1 == 2 && v.2.1 == p
def named (vs : List Val) (p : Int) : Bool := vs.any fun v => one v p
end Go.Proofs.YtkjpakaidjpjgaaGreatDoor.Den
/- Pure laws: lists of objects, objects apart, what objects refer to. -/
namespace Go.Proofs.YtkjpakaidjpjgaaGreatDoor.Den
open Go
set_option linter.unusedVariables false
set_option linter.unusedSimpArgs false
set_option maxRecDepth 100000
def okA (h : Heap) (a : Int) : Bool := (og h a).2.1
def lstN (h : Heap) (n : Nat) : List Int := ((List.range n).map fun (i : Nat) => (i : Int)).filter (okA h)
def lst (h : Heap) : List Int := lstN h h.1.length
theorem lstN_succ (h : Heap) (n : Nat) : lstN h (n + 1) = if okA h n = true then lstN h n ++ [(n : Int)] else lstN h n := by
 unfold lstN
 rw [List.range_succ, List.map_append, List.filter_append]
 cases e : okA h n <;> simp [e]
theorem lstN_len (h : Heap) : ∀ n, (lstN h n).length ≤ n
 | 0 => by simp [lstN]
 | n + 1 => by
  have := lstN_len h n
  rw [lstN_succ]; split
  ·rw [List.length_append]; simp only [List.length_singleton]; omega
  ·omega
theorem list_eq {h : Heap} (f : FormP h) : r08_List (h, ()) = some (lst h, ()) := by
 have hn := f.n16
 have hl := f.len
 have hr : r08_List_l0 (0, h, [], ()) = some (.out (lst h, ())) := by
  unfold r08_List_l0
  refine iterL_run h.1.length (fun i => ((i : Int), h, lstN h i, ())) (fun i hi => ?_) ?_ (by omega) (by simp [lstN])
  ·have := lstN_len h i
   simp only [r08_List_s0, r08_List_s0r, Bool.cond_decide, objGet8_eq f, Option.bind_some]
   rw [if_pos (by omega), if_pos (by omega), wi64_id (by omega) (by omega), lstN_succ]
   unfold okA
   cases (og h (i : Int)).2.1 <;> rfl
  ·simp only [r08_List_s0, r08_List_s0r, Bool.cond_decide]
   rw [if_neg (by omega)]; rfl
 simp only [r08_List, r08_List_r, hr, Option.bind_some]
theorem mem_lst {h : Heap} (f : FormP h) {a : Int} : a ∈ lst h ↔ okA h a = true := by
 unfold lst lstN
 rw [List.mem_filter]
 constructor
 ·exact fun h => h.2
 ·intro ho
  refine ⟨?_, ho⟩
  have hr := fndB_rng (og_ok ho).1
  have hl := f.len
  rw [List.mem_map]
  exact ⟨a.toNat, List.mem_range.2 (by omega), Int.toNat_of_nonneg hr.1⟩
theorem lst_len {h : Heap} (f : FormP h) : (lst h).length ≤ 512 := by
 have := lstN_len h h.1.length
 have := f.n16
 have := f.len
 unfold lst; omega
def rg (w : Int) : Val := if w = 0 then zv0 else if w.tmod 2 = 1 then (1, wi64 (wu64 (w.tdiv 2)), ()) else (2, wi64 (wu64 ((wu64 (w.tdiv 2)) - 1)), ())
 where zv0 : Val := (0, 0, ())
theorem get1_eq (w : Int) : r01_Get (w, ()) = some (rg w, ()) := by
 simp only [r01_Get, r01_Get_r, ibeq, Bool.cond_decide, rg, rg.zv0]
 split
 ·rfl
 ·split <;> rfl
def cnt (h : Heap) (a : Int) : Int := (og h a).1.2.2.2.1
theorem field8_eq {h : Heap} (f : FormP h) {a : Int} (ho : (og h a).2.1 = true) {i : Int} (h0 : 0 ≤ i) (hi : i < cnt h a) : r08_Field (h, a, i, ()) = some (rg (h.1.getD (a + 1 + i).toNat 0), 0, ()) := by
 have hn := f.n16
 have hl := f.len
 have hr := og_rng f ho
 unfold cnt at hi
 simp only [r08_Field, r08_Field_r, objGet8_eq f, Option.bind_some, Bool.cond_decide, ho, Bool.not_true, cond_false]
 rw [if_neg (by omega), if_neg (by omega), wi64_id (n := a + 1) (by omega) (by omega), wi64_id (n := a + 1 + i) (by omega) (by omega), if_pos (by omega), if_pos (by omega), get1_eq]
 rfl
def rfN (h : Heap) (a : Int) (n : Nat) : List Int := (((List.range n).map fun (j : Nat) => rg (h.1.getD (a + 1 + j).toNat 0)).filter fun v => decide (v.1 = 2)).map fun v => v.2.1
theorem rfN_succ (h : Heap) (a : Int) (n : Nat) : rfN h a (n + 1) = if (rg (h.1.getD (a + 1 + n).toNat 0)).1 = 2 then rfN h a n ++ [(rg (h.1.getD (a + 1 + n).toNat 0)).2.1] else rfN h a n := by
 unfold rfN
 rw [List.range_succ, List.map_append, List.filter_append, List.map_append]
 simp only [List.map_cons, List.map_nil]
 generalize rg (h.1.getD (a + 1 + n).toNat 0) = v
 by_cases e : v.1 = 2 <;> simp [e]
theorem rfN_len (h : Heap) (a : Int) : ∀ n, (rfN h a n).length ≤ n
 | 0 => by simp [rfN]
 | n + 1 => by
  have := rfN_len h a n
  rw [rfN_succ]; split
  ·rw [List.length_append]; simp only [List.length_singleton]; omega
  ·omega
theorem refs8_eq {h : Heap} (f : FormP h) {a : Int} (ho : (og h a).2.1 = true) : r08_Refs (h, a, ()) = some (rfN h a (cnt h a).toNat, ()) := by
 have hr := og_rng f ho
 have hc : 0 ≤ cnt h a ∧ cnt h a ≤ 15 := ⟨hr.2.2.1, hr.2.2.2.2⟩
 have hr : r08_Refs_l0 (a, 0, h, (og h a).1, [], ()) = some (.out (rfN h a (cnt h a).toNat, ())) := by
  unfold r08_Refs_l0
  refine iterL_run (cnt h a).toNat (fun i => (a, (i : Int), h, (og h a).1, rfN h a i, ())) (fun i hi => ?_) ?_ (by omega) (by simp [rfN])
  ·have := rfN_len h a i
   simp only [r08_Refs_s0, r08_Refs_s0r, Bool.cond_decide, ibeq]
   change (if (i : Int) < cnt h a then _ else _) = _
   rw [if_pos (by omega), field8_eq f ho (by omega) (by omega), Option.bind_some, wi64_id (by omega) (by omega), rfN_succ, if_pos (show (((rfN h a i).length + 1) * 8 ≤ 140737488355328) by omega)]
   simp only []
   split <;> rfl
  ·simp only [r08_Refs_s0, r08_Refs_s0r, Bool.cond_decide]
   change (if (((cnt h a).toNat : Nat) : Int) < cnt h a then _ else _) = _
   rw [if_neg (by omega)]
 simp only [r08_Refs, r08_Refs_r, objGet8_eq f, hr, Option.bind_some]
theorem in8_eq (l : List Int) (n : Int) (hl : l.length < 9223372036854775807) : r08_In (l, n, ()) = some (decide (n ∈ l), ()) := by
 have key : ∃ r, r08_In_l0 (l, n, 0, ()) = some r ∧ r = (if n ∈ l then .ret (true, ()) else .out ()) := by
  unfold r08_In_l0
  refine iterL_rule (fun m x => ∃ i : Nat, i ≤ l.length ∧ m = l.length - i ∧ x = (l, n, (i : Int), ()) ∧ ∀ j (h1 : j < l.length), j < i → l[j] ≠ n) ?_ _ l.length _ (by omega) ⟨0, by omega, rfl, rfl, fun j _ hj => by omega⟩
  rintro m x ⟨i, i1, rfl, rfl, hi⟩
  simp only [r08_In_s0, r08_In_s0r, Bool.cond_decide, ibeq]
  by_cases hn : i < l.length
  ·rw [if_pos (by omega), if_pos (by omega), if_pos (by omega), Int.toNat_natCast, get_d _ _ _ hn]
   by_cases e : l[i] = n
   ·rw [if_pos e]
    refine .inr ⟨_, rfl, ?_⟩
    rw [if_pos]
    rw [← e]; exact List.getElem_mem hn
   ·rw [if_neg e, wi64_id (by omega) (by omega)]
    refine .inl ⟨l.length - (i + 1), (l, n, ((i + 1 : Nat) : Int), ()), by omega, rfl, i + 1, by omega, rfl, rfl, fun j h1 h3 => ?_⟩
    by_cases e' : j = i
    ·subst e'; exact e
    ·exact hi j h1 (by omega)
  ·rw [if_neg (by omega)]
   refine .inr ⟨_, rfl, ?_⟩
   rw [if_neg]
   intro hm
   obtain ⟨j, hj, e⟩ := List.mem_iff_getElem.1 hm
   exact hi j hj (by omega) e
 obtain ⟨r, e, rfl⟩ := key
 simp only [r08_In, r08_In_r, e, Option.bind_some]
 by_cases h : n ∈ l <;> simp [h]
end Go.Proofs.YtkjpakaidjpjgaaGreatDoor.Den
/- Pure laws: operations. -/
namespace Go.Proofs.YtkjpakaidjpjgaaGreatDoor.Den
open Go
set_option linter.unusedVariables false
set_option linter.unusedSimpArgs false
set_option maxRecDepth 100000
def zv : Val := (0, 0, ())
def wg (w : Int) : Val := if w = 0 then zv else if bitsI .and .u64 w 1 = 1 then (1, wi64 (shiftI false .u64 w 1), ()) else (2, wi64 ((wi64 (shiftI false .u64 w 1)) - 1), ())
theorem wordGet_eq (w : Int) : word_Get (w, ()) = some (wg w, ()) := by
 simp only [word_Get, word_Get_r, ibeq, Bool.cond_decide, wg]
 split
 ·rfl
 ·split <;> rfl
def fe (h : Heap) (a i : Int) : Int := if (og h a).2.1 = true then if 0 ≤ i ∧ i < (og h a).1.2.2.2.1 then 0 else 4 else 1
theorem place_eq {h : Heap} (f : FormP h) {a : Int} (l : -9223372036854775808 ≤ a) (u : a < 9223372036854775808) (i : Int) :
  object_place (h, a, i, ()) = some (if fe h a i = 0 then a + 1 + i else 0, fe h a i, ()) := by
 have hn := f.n16
 simp only [object_place, object_place_r, objGet_eq f l u, Option.bind_some, fe, Bool.cond_decide]
 by_cases ho : (og h a).2.1 = true
 rotate_left
 ·simp only [Bool.not_eq_true] at ho
  simp only [ho, Bool.not_false, cond_true]; rfl
 ·have := og_rng f ho
  simp only [ho, Bool.not_true, cond_false, if_true]
  by_cases hi : 0 ≤ i ∧ i < (og h a).1.2.2.2.1
  ·simp only [hi, and_self, if_true]
   rw [if_neg (by omega), if_neg (by omega), wi64_id (n := a + 1) (by omega) (by omega), wi64_id (n := a + 1 + i) (by omega) (by omega)]
  ·simp only [hi, if_false]
   by_cases h0 : i < 0
   ·rw [if_pos h0]; rfl
   ·rw [if_neg h0, if_pos (by omega)]; rfl
theorem field_eq {h : Heap} (f : FormP h) {a : Int} (l : -9223372036854775808 ≤ a) (u : a < 9223372036854775808) (i : Int) :
  object_Field (h, a, i, ()) = some (if fe h a i = 0 then wg (h.1.getD (a + 1 + i).toNat 0) else zv, fe h a i, ()) := by
 have hn := f.n16
 have hl := f.len
 simp only [object_Field, object_Field_r, place_eq f l u, Option.bind_some, ibne, Bool.cond_decide]
 by_cases he : fe h a i = 0
 ·simp only [he, if_true, not_true, if_false]
  have h1 : (og h a).2.1 = true ∧ 0 ≤ i ∧ i < (og h a).1.2.2.2.1 := by
   unfold fe at he
   split at he
   ·split at he
    ·rename_i a b; exact ⟨a, b⟩
    ·cases he
   ·cases he
  have := og_rng f h1.1
  rw [if_pos (by omega), if_pos (by omega), wordGet_eq]
  rfl
 ·simp only [he, not_false_iff, if_true, if_false]; rfl
def se (st : List Val) (i : Int) : Int := if 0 ≤ i ∧ i < st.length then 0 else 3
def sat (st : List Val) (i : Int) : Val := if 0 ≤ i ∧ i < st.length then st.getD i.toNat zv else zv
def oe (st : List Val) (i : Int) : Int := if se st i = 0 then if (sat st i).1 = 0 then 2 else if (sat st i).1 = 2 then 0 else 7 else 3
structure StP (st : List Val) : Prop where
 len : st.length ≤ 51
 rng : ∀ v ∈ st, -9223372036854775808 ≤ v.2.1 ∧ v.2.1 < 9223372036854775808
theorem StP.sat {st : List Val} (p : StP st) (i : Int) : -9223372036854775808 ≤ (sat st i).2.1 ∧ (sat st i).2.1 < 9223372036854775808 := by
 unfold Den.sat
 split
 ·rename_i hi
  have : i.toNat < st.length := by omega
  rw [get_d _ _ _ this]; exact p.rng _ (List.getElem_mem this)
 ·exact ⟨by decide, by decide⟩
abbrev OpT : Type := Int × Int × Val
def ofe (h : Heap) (st : List Val) (o : OpT) : Int := if oe st o.2.1 = 0 then fe h (sat st o.2.1).2.1 o.2.2.1 else oe st o.2.1
def wie (n a b : Int) : Int := if n < a ∨ b < n then 1 else 0
def ow (h : Heap) (st : List Val) (o : OpT) : Int :=
 if o.1 = 0 then wie o.2.1 0 15 else if o.1 = 4 then wie o.2.1 0 1099511627776 else if o.1 = 1 then ofe h st o
 else if o.1 = 2 then (if ofe h st o = 0 then se st o.2.2.2.1 else ofe h st o) else if o.1 = 3 then se st o.2.1
 else if o.1 = 5 then (if st.length = 0 then 3 else 0) else if o.1 = 6 then 0 else 1
def pu (k : Int) : Prop := k = 0 ∨ k = 1 ∨ k = 3 ∨ k = 4
instance (k : Int) : Decidable (pu k) := by unfold pu; infer_instance
def ck (h : Heap) (st : List Val) (room : Int) (o : OpT) : Int := if ow h st o = 0 ∧ pu o.1 ∧ room ≤ st.length then 5 else ow h st o
end Go.Proofs.YtkjpakaidjpjgaaGreatDoor.Den
/- Pure laws: words as values, fields, new rows. -/
namespace Go.Proofs.YtkjpakaidjpjgaaGreatDoor.Den
open Go
set_option linter.unusedVariables false
set_option linter.unusedSimpArgs false
set_option maxRecDepth 100000
abbrev MarkT : Type := Grey × (List Grey) × (List Val) × Int × Int × Int × Bool × Unit
def fldV (h : Heap) (a i : Int) : Val := if fe h a i = 0 then wg (h.1.getD (a + 1 + i).toNat 0) else zv
theorem wg_rg {w : Int} (h0 : 0 ≤ w) (h1 : w < 18446744073709551616) : wg w = rg w := by
 unfold wg rg
 by_cases hw : w = 0
 ·rw [if_pos hw, if_pos hw]; rfl
 rw [if_neg hw, if_neg hw]
 have e1 : bitsI .and .u64 w 1 = w % 2 := by
  have := and_mask h0 h1 1 (by omega)
  exact this
 have e2 : shiftI false .u64 w 1 = w / 2 := by
  simp only [shiftI, cond_false, IntKind.bits]
  rw [Int.fdiv_eq_ediv_of_nonneg _ (by decide)]
  rfl
 rw [e1, e2, Int.tmod_eq_emod_of_nonneg h0, Int.tdiv_eq_ediv_of_nonneg h0, wu64_id (n := w / 2) (by omega) (by omega), wi64_id (n := w / 2) (by omega) (by omega)]
 by_cases hc : w % 2 = 1
 ·rw [if_pos hc, if_pos hc]
 ·rw [if_neg hc, if_neg hc, wu64_id (by omega) (by omega)]
theorem rg_rng (w : Int) : -9223372036854775808 ≤ (rg w).2.1 ∧ (rg w).2.1 < 9223372036854775808 := by
 unfold rg
 split
 ·exact ⟨by decide, by decide⟩
 ·split
  ·exact wi64_rng _
  ·exact wi64_rng _
theorem fe_ok {h : Heap} {a i : Int} (e : fe h a i = 0) : (og h a).2.1 = true ∧ 0 ≤ i ∧ i < cnt h a := by
 unfold fe at e
 split at e
 ·split at e
  ·rename_i x y; exact ⟨x, y⟩
  ·cases e
 ·cases e
def markM (g b : Int) (n : Nat) (vs : List Val) : MarkT := ((g, [], ()), List.replicate n (b, [], ()), vs, -1, 0, -1, false, ())
theorem greyNew_eq {b : Int} (b0 : 0 ≤ b) (b1 : b ≤ 16) : grey_New (b, ()) = some ((b, [], ()), true, ()) := by
 simp only [grey_New, grey_New_r, Bool.cond_decide]
 rw [if_neg (by omega), if_neg (by omega)]
theorem rep_succ {α : Type} (x : α) (n : Nat) : List.replicate n x ++ [x] = List.replicate (n + 1) x := by
 rw [List.replicate_succ']
theorem cloneV_eq {l : List Val} (h : l.length ≤ 1000000) : slices_Clone_api_Value (l, ()) = some (l, ()) := by
 simp only [slices_Clone_api_Value, cloneF, Bool.cond_decide]
 rw [if_pos (by omega)]
theorem cloneI_eq {l : List Int} (h : l.length ≤ 1000000) : slices_Clone_int (l, ()) = some (l, ()) := by
 simp only [slices_Clone_int, cloneF, Bool.cond_decide]
 rw [if_pos (by omega)]
theorem cloneG_eq {l : List Grey} (h : l.length ≤ 1000000) : slices_Clone_api_Grey (l, ()) = some (l, ()) := by
 simp only [slices_Clone_api_Grey, cloneF, Bool.cond_decide]
 rw [if_pos (by omega)]
end Go.Proofs.YtkjpakaidjpjgaaGreatDoor.Den
/- Pure laws: object.List. -/
namespace Go.Proofs.YtkjpakaidjpjgaaGreatDoor.Den
open Go
set_option linter.unusedVariables false
set_option linter.unusedSimpArgs false
set_option maxRecDepth 100000
theorem class_BlocksP_eq (c : Int) : class_Blocks (c, ()) = some (cb c, ()) := by
 simp only [class_Blocks, class_Blocks_r, class_is_eq, Option.bind_some, Bool.cond_decide]
 rcases class_cases c with rfl | rfl | rfl | rfl | h
 ·rfl
 ·rfl
 ·rfl
 ·rfl
 ·have e : decide (0 ≤ c ∧ c < 4) = false := by
   rw [decide_eq_false_iff_not]
   omega
  rw [e, cb_out h]
  rfl
theorem okA_find {h : Heap} {a : Int} (ho : okA h a = true) : fndB h a = true := (og_ok ho).1
theorem lstN_skip {h : Heap} {n : Nat} : ∀ {m : Nat}, n ≤ m → (∀ j : Nat, n ≤ j → j < m → okA h (j : Int) = false) → lstN h m = lstN h n
 | 0, hm, _ => by
  obtain rfl : n = 0 := by omega
  rfl
 | m + 1, hm, hk => by
  by_cases e : n = m + 1
  ·subst e; rfl
  ·rw [lstN_succ, hk m (by omega) (by omega), if_neg (by simp)]
   exact lstN_skip (by omega) fun j h1 h2 => hk j h1 (by omega)
theorem spanOf_at {h : Heap} {p j : Nat} (hj : j < 32) : spanOf h ((32 * p + j : Nat) : Int) = h.2.1.getD p sz := by
 unfold spanOf
 have : (((32 * p + j : Nat) : Int) / 32).toNat = p := by omega
 rw [this]
theorem not_ok {h : Heap} {p j : Nat} (hj : j < 32) (hn : (h.2.1.getD p sz).1 = 0 ∨ ((j : Int) % cw (h.2.1.getD p sz).2.1 ≠ 0 ∧ (cw (h.2.1.getD p sz).2.1 = 2 ∨ cw (h.2.1.getD p sz).2.1 = 4 ∨ cw (h.2.1.getD p sz).2.1 = 8 ∨ cw (h.2.1.getD p sz).2.1 = 16))) : okA h ((32 * p + j : Nat) : Int) = false := by
 cases ho : okA h ((32 * p + j : Nat) : Int) with
 | false => rfl
 | true =>
  exfalso
  have hf := okA_find ho
  unfold fndB at hf
  have hf := of_decide_eq_true hf
  rw [spanOf_at hj] at hf
  rcases hn with hn | ⟨hn, hw⟩
  ·exact hf.2.2.1 hn
  ·have := hf.2.2.2
   rcases hw with e | e | e | e <;> rw [e] at this hn <;> omega
theorem objList_eq {h : Heap} (f : FormP h) : object_List (h, ()) = some (lst h, ()) := by
 have hn := f.n16
 have hl := f.len
 have inner : ∀ p : Nat, p < h.2.1.length → (h.2.1.getD p sz).1 ≠ 0 →
   object_List_l0 ((p : Int), h.2.1, (h.2.1.length : Int), (p : Int), cb (h.2.1.getD p sz).2.1, 0, h, h.2.1.getD p sz, lstN h (32 * p), ()) = some (.out (h.2.1, (h.2.1.length : Int), (p : Int), h, lstN h (32 * (p + 1)), ())) := by
  intro p hp hu
  have hc := f.spanAt (a := ((32 * p : Nat) : Int)) (by omega) (by omega) (by rw [show (32 * p : Nat) = 32 * p + 0 from rfl, spanOf_at (by omega)]; exact hu)
  rw [show (32 * p : Nat) = 32 * p + 0 from rfl, spanOf_at (by omega)] at hc
  have hw : (cw (h.2.1.getD p sz).2.1 = 2 ∧ cb (h.2.1.getD p sz).2.1 = 16) ∨ (cw (h.2.1.getD p sz).2.1 = 4 ∧ cb (h.2.1.getD p sz).2.1 = 8) ∨ (cw (h.2.1.getD p sz).2.1 = 8 ∧ cb (h.2.1.getD p sz).2.1 = 4) ∨ (cw (h.2.1.getD p sz).2.1 = 16 ∧ cb (h.2.1.getD p sz).2.1 = 2) := by
   have : (h.2.1.getD p sz).2.1 = 0 ∨ (h.2.1.getD p sz).2.1 = 1 ∨ (h.2.1.getD p sz).2.1 = 2 ∨ (h.2.1.getD p sz).2.1 = 3 := by omega
   rcases this with e | e | e | e <;> rw [e] <;> simp [cw, cb]
  obtain ⟨w, b, e1, e2, hw', hb'⟩ : ∃ w b : Nat, cw (h.2.1.getD p sz).2.1 = w ∧ cb (h.2.1.getD p sz).2.1 = b ∧ ((w = 2 ∧ b = 16) ∨ (w = 4 ∧ b = 8) ∨ (w = 8 ∧ b = 4) ∨ (w = 16 ∧ b = 2)) ∧ w * b = 32 := by
   rcases hw with ⟨a, c⟩ | ⟨a, c⟩ | ⟨a, c⟩ | ⟨a, c⟩
   ·exact ⟨2, 16, a, c, by omega, rfl⟩
   ·exact ⟨4, 8, a, c, by omega, rfl⟩
   ·exact ⟨8, 4, a, c, by omega, rfl⟩
   ·exact ⟨16, 2, a, c, by omega, rfl⟩
  unfold object_List_l0
  refine iterL_run b (fun i => ((p : Int), h.2.1, (h.2.1.length : Int), (p : Int), cb (h.2.1.getD p sz).2.1, (i : Int), h, h.2.1.getD p sz, lstN h (32 * p + i * w), ())) (fun i hi => ?_) ?_ (by omega) (by simp)
  ·obtain ⟨k, hk⟩ : ∃ k, k = i * w := ⟨_, rfl⟩
   have hk1 : (i + 1) * w = k + w := by rw [Nat.succ_mul, ← hk]
   have hkw : k % w = 0 := by rw [hk, Nat.mul_mod_left]
   have hiw : k + w ≤ 32 := by
    rw [← hk1, ← hb', Nat.mul_comm w b]
    exact Nat.mul_le_mul_right _ hi
   have hiw' : (i : Int) * (w : Int) = (k : Int) := by rw [hk, Int.natCast_mul]
   have hwp : 2 ≤ w := by omega
   rw [hk1, ← hk]
   have hlen := lstN_len h (32 * p + k)
   have hskip : lstN h (32 * p + (k + w)) = lstN h (32 * p + k + 1) := by
    refine lstN_skip (by omega) fun j h1 h2 => ?_
    obtain ⟨d, rfl⟩ : ∃ d, j = 32 * p + (k + d) := ⟨j - 32 * p - k, by omega⟩
    refine not_ok (by omega) (.inr ⟨?_, by rw [e1]; omega⟩)
    rw [e1]
    have : (k + d) % w = d := by rw [Nat.add_mod, hkw, Nat.zero_add, Nat.mod_mod, Nat.mod_eq_of_lt (by omega)]
    have h3 : ((k + d : Nat) : Int) % (w : Int) = ((d : Nat) : Int) := by rw [← Int.natCast_emod, this]
    rw [h3]
    omega
   simp only [object_List_s0, object_List_s0r, Bool.cond_decide, class_Words_eq, Option.bind_some, e1, e2]
   rw [if_pos (by omega), wi64_id (n := (p : Int) * 32) (by omega) (by omega), hiw', wi64_id (n := (k : Int)) (by omega) (by omega)]
   rw [show (p : Int) * 32 + (k : Int) = ((32 * p + k : Nat) : Int) by omega, wi64_id (n := ((32 * p + k : Nat) : Int)) (by omega) (by omega)]
   rw [objGet_eq f (by omega) (by omega), hskip, lstN_succ]
   simp only [Option.bind_some]
   unfold okA
   cases (og h ((32 * p + k : Nat) : Int)).2.1 with
   | true =>
    simp only [cond_true, if_true]
    rw [if_pos (by omega), wi64_id (n := (i : Int) + 1) (by omega) (by omega)]
    rfl
   | false =>
    simp only [cond_false]
    rw [wi64_id (n := (i : Int) + 1) (by omega) (by omega)]
    rfl
  ·simp only [object_List_s0, object_List_s0r, Bool.cond_decide, e2]
   rw [if_neg (by omega), show b * w = 32 by rw [Nat.mul_comm]; exact hb']
   rfl
 have outer : object_List_l1 (h.2.1, (h.2.1.length : Int), 0, h, [], ()) = some (.out (lst h, ())) := by
  unfold object_List_l1
  refine iterL_run h.2.1.length (fun p => (h.2.1, (h.2.1.length : Int), (p : Int), h, lstN h (32 * p), ())) (fun p hp => ?_) ?_ (by omega) (by simp [lstN])
  ·simp only [object_List_s1, object_List_s1r, Bool.cond_decide, ibeq, class_BlocksP_eq, Option.bind_some]
   rw [if_pos (by omega), if_pos (by omega), if_pos (by omega), Int.toNat_natCast]
   simp only [show ((0 : Int), (0 : Int), (0 : Int), ()) = sz from rfl]
   by_cases hu : (h.2.1.getD p sz).1 = 0
   ·rw [if_pos hu, wi64_id (by omega) (by omega)]
    have : lstN h (32 * (p + 1)) = lstN h (32 * p) := lstN_skip (by omega) fun j h1 h2 => by
     have ej : j = 32 * p + (j - 32 * p) := by omega
     rw [ej]
     exact not_ok (by omega) (.inl hu)
    rw [this]
    rfl
   ·rw [if_neg hu, inner p hp hu]
    simp only [Option.bind_some]
    rw [wi64_id (by omega) (by omega)]
    rfl
  ·simp only [object_List_s1, object_List_s1r, Bool.cond_decide]
   rw [if_neg (by omega)]
   unfold lst
   rw [f.len]
 simp only [object_List, object_List_r, outer, Option.bind_some]
theorem lst_sorted (h : Heap) : (lst h).Pairwise (· < ·) := by
 unfold lst lstN
 refine List.Pairwise.filter _ ?_
 rw [List.pairwise_map]
 exact (List.pairwise_lt_range (n := h.1.length)).imp fun h => by omega
end Go.Proofs.YtkjpakaidjpjgaaGreatDoor.Den
/- Pure laws: a step of marking. -/
namespace Go.Proofs.YtkjpakaidjpjgaaGreatDoor.Den
open Go
set_option linter.unusedVariables false
set_option linter.unusedSimpArgs false
set_option maxRecDepth 100000
def lastI (l : List Int) : Int := l.getD (l.length - 1) 0
def initI (l : List Int) : List Int := l.take (l.length - 1)
def popG (g : Grey) : Grey × Int × Bool × Unit := if g.2.1 = [] then (g, 0, false, ()) else ((g.1, initI g.2.1, ()), lastI g.2.1, true, ())
theorem pop_eqG {g : Grey} (hl : g.2.1.length ≤ 1000000) : grey_Pop (g, ()) = some (popG g) := by
 simp only [grey_Pop, grey_Pop_r, ibeq, Bool.cond_decide, popG]
 by_cases e : g.2.1 = []
 ·rw [if_pos (by rw [e]; rfl), if_pos e]
 ·have hp : 0 < g.2.1.length := List.length_pos_iff.2 e
  have hw : wi64 ((g.2.1.length : Int) - 1) = ((g.2.1.length - 1 : Nat) : Int) := by rw [wi64_id (by omega) (by omega)]; omega
  rw [if_neg (by omega), if_neg e, hw, if_pos (by omega), if_pos (by omega), if_pos (by omega), if_pos (by omega), Int.toNat_natCast, List.drop_zero, Nat.sub_zero, cloneI_eq (by rw [List.length_take]; omega)]
  rfl
theorem last_mem {l : List Int} (h : 0 < l.length) : lastI l ∈ l := by
 unfold lastI
 rw [get_d _ _ _ (by omega)]
 exact List.getElem_mem _
def hand (h : Heap) (m : MarkT) (a : Int) : MarkT := if (og h a).2.1 = true ∧ 0 < cnt h a then (m.1, m.2.1, m.2.2.1, a, 0, m.2.2.2.2.2) else m
def fstB (bs : List Grey) : Option Nat := bs.findIdx? fun g => decide (0 < g.2.1.length)
def nxt (h : Heap) (c : Int) : Option Int := (lst h).find? fun a => decide (c ≤ a) && bk h a
def stp (h : Heap) (m : MarkT) : Heap × MarkT × Bool × Unit :=
 if m.2.2.2.1 = -1 then
  if m.1.2.1 = [] then
   match fstB m.2.1 with
   | some i => (h, hand h (m.1, m.2.1.set i (popG (m.2.1.getD i (0, [], ()))).1, m.2.2) (lastI (m.2.1.getD i (0, [], ())).2.1), false, ())
   | none => match m.2.2.1 with
    | v :: vs => ((sh h m.1 v).1, ((sh h m.1 v).2.1, m.2.1, vs, m.2.2.2.1, m.2.2.2.2.1, m.2.2.2.2.2.1, m.2.2.2.2.2.2.1 || (sh h m.1 v).2.2.1, ()), false, ())
    | [] => if m.2.2.2.2.2.1 = -1 then
      if m.2.2.2.2.2.2.1 = true then (h, (m.1, m.2.1, m.2.2.1, m.2.2.2.1, m.2.2.2.2.1, 0, false, ()), false, ()) else (h, m, true, ())
     else match nxt h m.2.2.2.2.2.1 with
      | some a => (h, hand h (m.1, m.2.1, m.2.2.1, m.2.2.2.1, m.2.2.2.2.1, a + 1, m.2.2.2.2.2.2) a, false, ())
      | none => (h, (m.1, m.2.1, m.2.2.1, m.2.2.2.1, m.2.2.2.2.1, -1, m.2.2.2.2.2.2), false, ())
  else (h, hand h ((popG m.1).1, m.2) (lastI m.1.2.1), false, ())
 else if cnt h m.2.2.2.1 ≤ m.2.2.2.2.1 + 1 then
  ((sh h m.1 (fldV h m.2.2.2.1 m.2.2.2.2.1)).1, ((sh h m.1 (fldV h m.2.2.2.1 m.2.2.2.2.1)).2.1, m.2.1, m.2.2.1, -1, 0, m.2.2.2.2.2.1, m.2.2.2.2.2.2.1 || (sh h m.1 (fldV h m.2.2.2.1 m.2.2.2.2.1)).2.2.1, ()), false, ())
 else ((sh h m.1 (fldV h m.2.2.2.1 m.2.2.2.2.1)).1, ((sh h m.1 (fldV h m.2.2.2.1 m.2.2.2.2.1)).2.1, m.2.1, m.2.2.1, m.2.2.2.1, m.2.2.2.2.1 + 1, m.2.2.2.2.2.1, m.2.2.2.2.2.2.1 || (sh h m.1 (fldV h m.2.2.2.1 m.2.2.2.2.1)).2.2.1, ()), false, ())
def inI (a : Int) : Prop := 0 ≤ a ∧ a < 9223372036854775808
structure MkP (h : Heap) (m : MarkT) : Prop where
 g : GreyP m.1
 gi : ∀ a ∈ m.1.2.1, inI a
 b : ∀ g ∈ m.2.1, GreyP g
 bi : ∀ g ∈ m.2.1, ∀ a ∈ g.2.1, inI a
 bl : m.2.1.length ≤ 10
 rl : m.2.2.1.length ≤ 1000
 rv : ∀ v : Val, v ∈ m.2.2.1 → -9223372036854775808 ≤ v.2.1 ∧ v.2.1 < 9223372036854775808
 cur : -1 ≤ m.2.2.2.2.2.1 ∧ m.2.2.2.2.2.1 ≤ h.1.length
 ob : (m.2.2.2.1 = -1 ∧ m.2.2.2.2.1 = 0) ∨ fe h m.2.2.2.1 m.2.2.2.2.1 = 0
theorem fldV_rng {h : Heap} (f : FormP h) (a i : Int) : -9223372036854775808 ≤ (fldV h a i).2.1 ∧ (fldV h a i).2.1 < 9223372036854775808 := by
 unfold fldV
 split
 ·have hw := word_at f (a + 1 + i).toNat
  rw [wg_rg hw.1 hw.2]
  exact rg_rng _
 ·exact ⟨by decide, by decide⟩
theorem fstB_none {bs : List Grey} (h : fstB bs = none) : ∀ i, i < bs.length → (bs.getD i (0, [], ())).2.1.length = 0 := by
 intro i hi
 unfold fstB at h
 rw [List.findIdx?_eq_none_iff] at h
 have := h _ (List.getElem_mem hi)
 rw [get_d _ _ _ hi]
 simpa using this
theorem fstB_some {bs : List Grey} {i : Nat} (h : fstB bs = some i) : i < bs.length ∧ 0 < (bs.getD i (0, [], ())).2.1.length ∧ ∀ j, j < i → (bs.getD j (0, [], ())).2.1.length = 0 := by
 unfold fstB at h
 obtain ⟨hi, h1, h2⟩ := List.findIdx?_eq_some_iff_getElem.1 h
 refine ⟨hi, ?_, fun j hj => ?_⟩
 ·rw [get_d _ _ _ hi]
  simpa using h1
 ·rw [get_d _ _ _ (by omega)]
  have := h2 j hj
  simpa using this
abbrev Cn4 : Type := Int × Int × Int × Bool × Unit
theorem step_l0 (h : Heap) (m : MarkT) (hb : m.2.1.length ≤ 1000000) (c1 : Bool × Unit) (c2 : Int) (c3 : Unit) (c4 : Cn4) (c5 : MarkT × Heap × Unit) :
  mark_Step_l0 (m.2.1, (m.2.1.length : Int), 0, h, m, c1, c2, c3, c4, c5, ()) = some (match fstB m.2.1 with
   | some i => .ret ((i : Int), h, m, c1, c2, c3, c4, c5, ())
   | none => .out (h, m, c1, c2, c3, c4, c5, ())) := by
 have key : ∃ l, mark_Step_l0 (m.2.1, (m.2.1.length : Int), 0, h, m, c1, c2, c3, c4, c5, ()) = some l ∧ l = (match fstB m.2.1 with
   | some i => .ret ((i : Int), h, m, c1, c2, c3, c4, c5, ())
   | none => .out (h, m, c1, c2, c3, c4, c5, ())) := by
  unfold mark_Step_l0
  refine iterL_rule (fun n x => ∃ i : Nat, i ≤ m.2.1.length ∧ n = m.2.1.length - i ∧ x = (m.2.1, (m.2.1.length : Int), (i : Int), h, m, c1, c2, c3, c4, c5, ()) ∧ ∀ j, j < i → (m.2.1.getD j (0, [], ())).2.1.length = 0) ?_ _ m.2.1.length _ (by omega) ⟨0, by omega, rfl, rfl, fun j hj => by omega⟩
  rintro n x ⟨i, i1, rfl, rfl, hz⟩
  simp only [mark_Step_s0, mark_Step_s0r, mark_state_barrier_1, mark_state_barrier_1_r, Bool.cond_decide, Option.bind_some]
  by_cases hi : i < m.2.1.length
  ·rw [if_pos (by omega), if_pos (by omega), if_pos (by omega), Int.toNat_natCast]
   by_cases e : ((m.2.1.getD i (0, [], ())).2.1.length : Int) > 0
   ·rw [if_pos e]
    refine .inr ⟨_, rfl, ?_⟩
    have : fstB m.2.1 = some i := by
     unfold fstB
     refine List.findIdx?_eq_some_iff_getElem.2 ⟨hi, ?_, fun j hj => ?_⟩
     ·rw [get_d _ _ _ hi] at e
      simpa using e
     ·have := hz j hj
      rw [get_d _ _ _ (by omega)] at this
      simpa using this
    rw [this]
   ·rw [if_neg e, wi64_id (by omega) (by omega)]
    refine .inl ⟨m.2.1.length - (i + 1), _, by omega, rfl, i + 1, by omega, rfl, rfl, fun j hj => ?_⟩
    by_cases hj2 : j = i
    ·subst hj2; omega
    ·exact hz j (by omega)
  ·rw [if_neg (by omega)]
   refine .inr ⟨_, rfl, ?_⟩
   have : fstB m.2.1 = none := by
    unfold fstB
    rw [List.findIdx?_eq_none_iff]
    intro g hg
    obtain ⟨j, hj, rfl⟩ := List.getElem_of_mem hg
    have := hz j (by omega)
    rw [get_d _ _ _ hj] at this
    simpa using this
   rw [this]
 obtain ⟨l, e, rfl⟩ := key
 exact e
theorem find_take {p : Int → Bool} {l : List Int} {i : Nat} (hi : i < l.length) (hz : ∀ j (hj : j < l.length), j < i → p l[j] = false) (hp : p l[i] = true) : l.find? p = some l[i] := by
 rw [List.find?_eq_some_iff_getElem]
 exact ⟨hp, i, hi, rfl, fun j hj => by simpa using hz j (by omega) hj⟩
theorem step_l1 {h : Heap} (f : FormP h) (h0 : Heap) (m0 : MarkT) (c1 : Bool × Unit) (c2 : Int) (c3 : Unit) (c4 : Cn4) (m : MarkT) :
  mark_Step_l1 (((lst h).length : Int), 0, h0, m0, c1, c2, c3, c4, (m, h, ()), lst h, ()) = some (match nxt h m.2.2.2.2.2.1 with
   | some a => .ret (true, h0, m0, c1, c2, c3, c4, (hand h (m.1, m.2.1, m.2.2.1, m.2.2.2.1, m.2.2.2.2.1, a + 1, m.2.2.2.2.2.2) a, h, ()), ())
   | none => .out (h0, m0, c1, c2, c3, c4, (m, h, ()), ())) := by
 have hn := f.n16
 have hl := lst_len f
 have key : ∃ l, mark_Step_l1 (((lst h).length : Int), 0, h0, m0, c1, c2, c3, c4, (m, h, ()), lst h, ()) = some l ∧ l = (match nxt h m.2.2.2.2.2.1 with
   | some a => .ret (true, h0, m0, c1, c2, c3, c4, (hand h (m.1, m.2.1, m.2.2.1, m.2.2.2.1, m.2.2.2.2.1, a + 1, m.2.2.2.2.2.2) a, h, ()), ())
   | none => .out (h0, m0, c1, c2, c3, c4, (m, h, ()), ())) := by
  unfold mark_Step_l1
  refine iterL_rule (fun n x => ∃ i : Nat, i ≤ (lst h).length ∧ n = (lst h).length - i ∧ x = (((lst h).length : Int), (i : Int), h0, m0, c1, c2, c3, c4, (m, h, ()), lst h, ()) ∧ ∀ j (hj : j < (lst h).length), j < i → (decide (m.2.2.2.2.2.1 ≤ (lst h)[j]) && bk h (lst h)[j]) = false) ?_ _ (lst h).length _ (by omega) ⟨0, by omega, rfl, rfl, fun j _ hj => by omega⟩
  rintro n x ⟨i, i1, rfl, rfl, hz⟩
  simp only [mark_Step_s1, mark_Step_s1r, Bool.cond_decide]
  by_cases hi : i < (lst h).length
  ·have ho := (mem_lst f).1 (List.getElem_mem hi)
   have hr := og_rng f ho
   rw [if_pos (by omega), if_pos (by omega), if_pos (by omega), Int.toNat_natCast, get_d _ _ _ hi, black_eq f (by omega) (by omega), objGet_eq f (by omega) (by omega), wi64_id (n := (i : Int) + 1) (by omega) (by omega), wi64_id (n := (lst h)[i] + 1) (by omega) (by omega)]
   simp only [Option.bind_some, show (og h (lst h)[i]).2.1 = true from ho, cond_true, Bool.cond_decide]
   have next : (decide (m.2.2.2.2.2.1 ≤ (lst h)[i]) && bk h (lst h)[i]) = false → ∃ m' y, m' < (lst h).length - i ∧ (some (SRes.next (((lst h).length : Int), ((i : Int) + 1), h0, m0, c1, c2, c3, c4, (m, h, ()), lst h, ())) : Option (SRes (.cons cI (.cons cI (.cons cHeap (.cons cMarker (.cons (.cons .bool .nil) (.cons cI (.cons .nil (.cons (.cons cI (.cons cI (.cons cI (.cons .bool .nil)))) (.cons (.cons cMarker (.cons cHeap .nil)) (.cons (.sl cI) .nil)))))))))) (.cons cHeap (.cons cMarker (.cons (.cons .bool .nil) (.cons cI (.cons .nil (.cons (.cons cI (.cons cI (.cons cI (.cons .bool .nil)))) (.cons (.cons cMarker (.cons cHeap .nil)) .nil))))))) (.cons .bool (.cons cHeap (.cons cMarker (.cons (.cons .bool .nil) (.cons cI (.cons .nil (.cons (.cons cI (.cons cI (.cons cI (.cons .bool .nil)))) (.cons (.cons cMarker (.cons cHeap .nil)) .nil)))))))))) = some (.next y) ∧ ∃ i : Nat, i ≤ (lst h).length ∧ m' = (lst h).length - i ∧ y = (((lst h).length : Int), (i : Int), h0, m0, c1, c2, c3, c4, (m, h, ()), lst h, ()) ∧ ∀ j (hj : j < (lst h).length), j < i → (decide (m.2.2.2.2.2.1 ≤ (lst h)[j]) && bk h (lst h)[j]) = false := by
    intro hp
    refine ⟨(lst h).length - (i + 1), _, by omega, rfl, i + 1, by omega, rfl, rfl, fun j hj hj2 => ?_⟩
    by_cases e : j = i
    ·subst e; exact hp
    ·exact hz j hj (by omega)
   by_cases hc : (lst h)[i] ≥ m.2.2.2.2.2.1
   ·rw [if_pos hc]
    cases hb : bk h (lst h)[i] with
    | false =>
     refine .inl (next ?_)
     rw [hb, Bool.and_false]
    | true =>
     have hnx : nxt h m.2.2.2.2.2.1 = some (lst h)[i] := find_take hi hz (by rw [hb, decide_eq_true hc]; rfl)
     rw [hnx]
     simp only [cond_true]
     refine .inr ?_
     by_cases hk : (og h (lst h)[i]).1.2.2.2.1 > 0
     ·rw [if_pos hk]
      refine ⟨_, rfl, ?_⟩
      simp only [hand]
      rw [if_pos ⟨ho, hk⟩]
     ·rw [if_neg hk]
      refine ⟨_, rfl, ?_⟩
      simp only [hand]
      rw [if_neg (fun h => hk h.2)]
   ·rw [if_neg hc]
    refine .inl (next ?_)
    rw [decide_eq_false (by omega), Bool.false_and]
  ·rw [if_neg (by omega)]
   refine .inr ⟨_, rfl, ?_⟩
   have : nxt h m.2.2.2.2.2.1 = none := by
    unfold nxt
    rw [List.find?_eq_none]
    intro a ha
    obtain ⟨j, hj, rfl⟩ := List.getElem_of_mem ha
    simpa using hz j hj (by omega)
   rw [this]
 obtain ⟨l, e, rfl⟩ := key
 exact e
theorem step_eq {h : Heap} (f : FormP h) {m : MarkT} (p : MkP h m) : mark_Step (h, m, ()) = some (stp h m) := by
 have hn := f.n16
 have hl := f.len
 have hbl := p.bl
 have hrl := p.rl
 have hcu := p.cur
 have gl : ∀ {g : Grey}, GreyP g → g.2.1.length ≤ 1000000 := fun q => by have := q.r16; have := q.len; omega
 simp only [mark_Step, mark_Step_r, ibeq, Bool.cond_decide, stp]
 by_cases ho : m.2.2.2.1 = -1
 ·rw [if_pos ho, if_pos ho, pop_eqG (gl p.g)]
  by_cases hg : m.1.2.1 = []
  ·simp only [popG, if_pos hg, Option.bind_some, Bool.not_false, cond_true]
   rw [step_l0 h m (by omega)]
   cases hf : fstB m.2.1 with
   | some i =>
    obtain ⟨i1, i2, _⟩ := fstB_some hf
    have hm : m.2.1.getD i (0, [], ()) ∈ m.2.1 := by rw [get_d _ _ _ i1]; exact List.getElem_mem i1
    have hla : lastI (m.2.1.getD i (0, [], ())).2.1 ∈ (m.2.1.getD i (0, [], ())).2.1 := last_mem i2
    have hr := p.bi _ hm _ hla
    have hne : (m.2.1.getD i (0, [], ())).2.1 ≠ [] := List.length_pos_iff.1 i2
    simp only [Option.bind_some]
    have n0 : ¬ ((i : Int) < 0) := by omega
    have n1 : (0 : Int) ≤ (i : Int) := by omega
    have n2 : (i : Int) < (m.2.1.length : Int) := by omega
    rw [if_neg n0, if_pos n1, if_pos n2, Int.toNat_natCast, pop_eqG (gl (p.b _ hm)), cloneG_eq (by omega)]
    simp only [Option.bind_some, popG, if_neg hne]
    rw [if_pos n1, if_pos n2, objGet_eq f (by have := hr.1; omega) hr.2]
    simp only [Option.bind_some, hand]
    cases hoo : (og h (lastI (m.2.1.getD i (0, [], ())).2.1)).2.1 with
    | false =>
     simp only [cond_false]
     rw [if_neg (fun h => by cases h.1)]
    | true =>
     simp only [cond_true]
     by_cases hc : (og h (lastI (m.2.1.getD i (0, [], ())).2.1)).1.2.2.2.1 > 0
     ·rw [if_pos hc, if_pos ⟨trivial, hc⟩]
     ·rw [if_neg hc, if_neg (fun h => hc h.2)]
   | none =>
    simp only [Option.bind_some]
    cases hrs : m.2.2.1 with
    | nil =>
     simp only [hrs, List.length_nil]
     rw [if_pos (show ((0 : Nat) : Int) = 0 from rfl)]
     by_cases hcur : m.2.2.2.2.2.1 = -1
     ·rw [if_pos hcur, if_pos hcur]
      cases hov : m.2.2.2.2.2.2.1 with
      | false =>
       simp only [Bool.not_false, cond_true]
       rw [if_neg (by decide)]
      | true =>
       simp only [Bool.not_true, cond_false]
       rw [if_pos trivial]
     ·rw [if_neg hcur, if_neg hcur, objList_eq f]
      simp only [Option.bind_some]
      rw [step_l1 f]
      cases hnx : nxt h m.2.2.2.2.2.1 with
      | some a =>
       simp only [Option.bind_some, cond_true, hrs]
      | none =>
       simp only [Option.bind_some, hrs]
    | cons v vs =>
     have hrv := p.rv v (by rw [hrs]; exact List.mem_cons_self)
     have hvl : vs.length ≤ 1000 := by rw [hrs, List.length_cons] at hrl; omega
     simp only [hrs, List.length_cons]
     rw [if_neg (by omega), if_pos (by omega), if_pos (by omega), if_pos (by omega)]
     have ht : ((v :: vs).drop 1).take (((vs.length + 1 : Nat) : Int).toNat - 1) = vs := by simp
     rw [ht, cloneV_eq (by omega)]
     simp only [Option.bind_some, List.getD_cons_zero, shade_eq f p.g hrv.1 hrv.2]
     cases hov : m.2.2.2.2.2.2.1 with
     | true => simp only [cond_true, Bool.true_or]
     | false => simp only [cond_false, Bool.false_or]
  ·have hp : 0 < m.1.2.1.length := List.length_pos_iff.2 hg
   have hla : lastI m.1.2.1 ∈ m.1.2.1 := last_mem hp
   have hr := p.gi _ hla
   simp only [popG, if_neg hg, Option.bind_some, Bool.not_true, cond_false]
   rw [objGet_eq f (by have := hr.1; omega) hr.2]
   simp only [Option.bind_some, hand]
   cases hoo : (og h (lastI m.1.2.1)).2.1 with
   | false =>
    simp only [cond_false]
    rw [if_neg (fun h => by cases h.1)]
   | true =>
    simp only [cond_true]
    by_cases hc : (og h (lastI m.1.2.1)).1.2.2.2.1 > 0
    ·rw [if_pos hc, if_pos ⟨trivial, hc⟩]
    ·rw [if_neg hc, if_neg (fun h => hc h.2)]
 ·have hob := (p.ob.resolve_left fun h => ho h.1)
  obtain ⟨o1, o2, o3⟩ := fe_ok hob
  have hr := og_rng f o1
  have hcn : cnt h m.2.2.2.1 ≤ 15 := hr.2.2.2.2
  have hv := fldV_rng f m.2.2.2.1 m.2.2.2.2.1
  have hfd : object_Field (h, m.2.2.2.1, m.2.2.2.2.1, ()) = some (fldV h m.2.2.2.1 m.2.2.2.2.1, fe h m.2.2.2.1 m.2.2.2.2.1, ()) := field_eq f (by omega) (by omega) _
  rw [if_neg ho, if_neg ho, objGet_eq f (by omega) (by omega), hfd]
  simp only [Option.bind_some]
  rw [wi64_id (n := m.2.2.2.2.1 + 1) (by omega) (by omega), show ((fldV h m.2.2.2.1 m.2.2.2.2.1).1, (fldV h m.2.2.2.1 m.2.2.2.2.1).2.1, ()) = fldV h m.2.2.2.1 m.2.2.2.2.1 from rfl, shade_eq f p.g hv.1 hv.2]
  simp only [Option.bind_some]
  have hge : (m.2.2.2.2.1 + 1 ≥ (og h m.2.2.2.1).1.2.2.2.1) ↔ cnt h m.2.2.2.1 ≤ m.2.2.2.2.1 + 1 := Iff.rfl
  cases hov : m.2.2.2.2.2.2.1 with
  | true =>
   simp only [cond_true, Bool.true_or, hge]
   split <;> rfl
  | false =>
   simp only [cond_false, Bool.false_or, hge]
   split <;> rfl
end Go.Proofs.YtkjpakaidjpjgaaGreatDoor.Den
/- Pure laws: markers that may be looked at; a value noted; a new marker; markers alike. -/
namespace Go.Proofs.YtkjpakaidjpjgaaGreatDoor.Den
open Go
set_option linter.unusedVariables false
set_option linter.unusedSimpArgs false
set_option maxRecDepth 100000
theorem field8_code {h : Heap} (f : FormP h) (a i : Int) : ∃ e, r08_Field (h, a, i, ()) = some (fldV h a i, e, ()) ∧ (e = 0 ↔ fe h a i = 0) := by
 by_cases he : fe h a i = 0
 ·obtain ⟨ho, i0, i1⟩ := fe_ok he
  refine ⟨0, ?_, by simp [he]⟩
  rw [field8_eq f ho i0 i1, fldV, if_pos he]
  obtain ⟨w0, w1⟩ := word_at f (a + 1 + i).toNat
  rw [wg_rg w0 w1]
 ·have hz : fldV h a i = zv := by unfold fldV; rw [if_neg he]
  rw [hz]
  simp only [r08_Field, r08_Field_r, objGet8_eq f, Option.bind_some, Bool.cond_decide]
  by_cases ho : (og h a).2.1 = true
  ·simp only [ho, Bool.not_true, cond_false]
   by_cases i0 : i < 0
   ·rw [if_pos i0]; exact ⟨_, rfl, by simp [he]⟩
   ·rw [if_neg i0, if_pos]
    ·exact ⟨_, rfl, by simp [he]⟩
    ·apply Int.not_lt.1
     intro hlt
     apply he
     unfold fe
     rw [if_pos ho, if_pos ⟨by omega, hlt⟩]
  ·simp only [Bool.not_eq_true] at ho
   simp only [ho, Bool.not_false, cond_true]
   exact ⟨_, rfl, by simp [he]⟩
def rtB (h : Heap) (m : MarkT) : Bool := m.2.1.all grB && (grB m.1 && (decide (-1 ≤ m.2.2.2.2.2.1 ∧ m.2.2.2.2.2.1 ≤ h.1.length) && (if m.2.2.2.1 = -1 then decide (m.2.2.2.2.1 = 0) else decide (fe h m.2.2.2.1 m.2.2.2.2.1 = 0))))
theorem right17_eq {h : Heap} (f : FormP h) (m : MarkT) (hb : m.2.1.length ≤ 1000000) : r17_Right (h, m, ()) = some (rtB h m, ()) := by
 have key : r17_Right_l0 (0, h, m, ()) = some (if m.2.1.all grB = true then .out (h, m, ()) else .ret (false, ())) := by
  have key : ∃ l, r17_Right_l0 (0, h, m, ()) = some l ∧ l = (if m.2.1.all grB = true then .out (h, m, ()) else .ret (false, ())) := by
   unfold r17_Right_l0
   refine iterL_rule (fun n x => ∃ i : Nat, i ≤ m.2.1.length ∧ n = m.2.1.length - i ∧ x = ((i : Int), h, m, ()) ∧ ∀ j (hj : j < m.2.1.length), j < i → grB m.2.1[j] = true) ?_ _ m.2.1.length _ (by omega) ⟨0, by omega, rfl, rfl, fun j _ hj => by omega⟩
   rintro n x ⟨i, i1, rfl, rfl, hz⟩
   simp only [r17_Right_s0, r17_Right_s0r, Bool.cond_decide, greyRight_eq, Option.bind_some]
   by_cases hi : i < m.2.1.length
   ·rw [if_pos (by omega), if_pos (by omega), if_pos (by omega), Int.toNat_natCast, get_d _ _ _ hi, wi64_id (by omega) (by omega)]
    cases e : grB m.2.1[i] with
    | false =>
     refine .inr ⟨_, rfl, ?_⟩
     rw [if_neg]
     intro h
     rw [List.all_eq_true.1 h _ (List.getElem_mem hi)] at e
     cases e
    | true =>
     refine .inl ⟨m.2.1.length - (i + 1), _, by omega, rfl, i + 1, by omega, rfl, rfl, fun j hj hj2 => ?_⟩
     by_cases e' : j = i
     ·subst e'; exact e
     ·exact hz j hj (by omega)
   ·rw [if_neg (by omega)]
    refine .inr ⟨_, rfl, ?_⟩
    rw [if_pos]
    rw [List.all_eq_true]
    intro x hx
    obtain ⟨j, hj, rfl⟩ := List.getElem_of_mem hx
    exact hz j hj (by omega)
  obtain ⟨l, e, rfl⟩ := key
  exact e
 simp only [r17_Right, r17_Right_r, key, Option.bind_some, rtB]
 cases ha : m.2.1.all grB with
 | false => rfl
 | true =>
  simp only [if_true, greyRight_eq, Option.bind_some, Bool.true_and, Bool.cond_decide, ibeq]
  cases hg : grB m.1 with
  | false => rfl
  | true =>
   simp only [Bool.not_true, cond_false, Bool.true_and]
   by_cases c1 : m.2.2.2.2.2.1 < -1
   ·rw [if_pos c1, decide_eq_false (by omega), Bool.false_and]
   by_cases c2 : m.2.2.2.2.2.1 > (h.1.length : Int)
   ·rw [if_neg c1, if_pos c2, decide_eq_false (by omega), Bool.false_and]
   rw [if_neg c1, if_neg c2, decide_eq_true (p := -1 ≤ m.2.2.2.2.2.1 ∧ m.2.2.2.2.2.1 ≤ (h.1.length : Int)) (by omega), Bool.true_and]
   by_cases ho : m.2.2.2.1 = -1
   ·rw [if_pos ho, if_pos ho]
   ·rw [if_neg ho, if_neg ho]
    obtain ⟨e, e1, e2⟩ := field8_code f m.2.2.2.1 m.2.2.2.2.1
    rw [e1]
    simp only [Option.bind_some]
    rw [decide_eq_decide.2 e2]
theorem few_eq (m : MarkT) : ∃ r, r17_Few (m, ()) = some (r, ()) ∧ (r = true → m.1.2.1.length ≤ 20 ∧ m.2.1.length ≤ 10 ∧ m.2.2.1.length ≤ 300 ∧ ∀ g ∈ m.2.1, g.2.1.length ≤ 20) := by
 have key : ∃ l, r17_Few_l0 (0, m, ()) = some l ∧ (l = .ret (false, ()) ∨ (l = .out (m, ()) ∧ (m.2.1.length ≤ 20 → ∀ j (hj : j < m.2.1.length), m.2.1[j].2.1.length ≤ 20))) := by
  unfold r17_Few_l0
  refine iterL_rule (fun n x => ∃ i : Nat, i ≤ m.2.1.length ∧ i ≤ 20 ∧ n = 20 - i ∧ x = ((i : Int), m, ()) ∧ ∀ j (hj : j < m.2.1.length), j < i → m.2.1[j].2.1.length ≤ 20) ?_ _ 20 _ (by omega) ⟨0, by omega, by omega, rfl, rfl, fun j _ hj => by omega⟩
  rintro n x ⟨i, i1, i2, rfl, rfl, hz⟩
  ·simp only [r17_Few_s0, r17_Few_s0r, Bool.cond_decide]
   by_cases hi : i < m.2.1.length
   ·by_cases h20 : i < 20
    ·rw [if_pos (by omega), if_pos (by omega), if_pos (by omega), if_pos (by omega), Int.toNat_natCast, get_d _ _ _ hi, wi64_id (by omega) (by omega)]
     by_cases e : ((m.2.1[i].2.1.length : Int) > 20)
     ·rw [if_pos e]
      exact .inr ⟨_, rfl, .inl rfl⟩
     ·rw [if_neg e]
      refine .inl ⟨20 - (i + 1), _, by omega, rfl, i + 1, by omega, by omega, rfl, rfl, fun j hj hj2 => ?_⟩
      by_cases e' : j = i
      ·subst e'; omega
      ·exact hz j hj (by omega)
    ·rw [if_pos (by omega), if_neg (by omega)]
     exact .inr ⟨_, rfl, .inr ⟨rfl, fun h j hj => by omega⟩⟩
   ·rw [if_neg (by omega)]
    exact .inr ⟨_, rfl, .inr ⟨rfl, fun h j hj => hz j hj (by omega)⟩⟩
 obtain ⟨l, e, rfl | ⟨rfl, hz⟩⟩ := key
 ·exact ⟨false, by simp only [r17_Few, r17_Few_r, e, Option.bind_some], fun h => by cases h⟩
 ·simp only [r17_Few, r17_Few_r, e, Option.bind_some, Bool.cond_decide]
  by_cases h1 : (m.1.2.1.length : Int) ≤ 20
  ·by_cases h2 : (m.2.1.length : Int) ≤ 10
   ·rw [if_pos h1, if_pos h2]
    refine ⟨_, rfl, fun h3 => ?_⟩
    have h3 := of_decide_eq_true h3
    refine ⟨by omega, by omega, by omega, fun g hg => ?_⟩
    obtain ⟨j, hj, rfl⟩ := List.getElem_of_mem hg
    exact hz (by omega) j hj
   ·rw [if_pos h1, if_neg h2]
    exact ⟨_, rfl, fun h => by cases h⟩
  ·rw [if_neg h1]
   exact ⟨_, rfl, fun h => by cases h⟩
theorem MkP.of {h : Heap} {m : MarkT} (gm : Good cMarker m) (hr : rtB h m = true) (hb : m.2.1.length ≤ 10) (hv : m.2.2.1.length ≤ 1000) : MkP h m := by
 unfold rtB at hr
 simp only [Bool.and_eq_true, List.all_eq_true, decide_eq_true_eq] at hr
 obtain ⟨r1, r2, r3, r4⟩ := hr
 obtain ⟨g1, g2, g3, g4⟩ : Good cGrey m.1 ∧ Good (.sl cGrey) m.2.1 ∧ Good (.sl cVal) m.2.2.1 ∧ True := ⟨gm.1, gm.2.1, gm.2.2.1, trivial⟩
 have gi : ∀ g : Grey, Good cGrey g → grB g = true → ∀ a ∈ g.2.1, inI a := fun g gg hg a ha => by
  have h0 := (grey_of hg).2 a ha
  have h1 : (-9223372036854775808 : Int) ≤ a ∧ a ≤ 9223372036854775807 := gg.2.1.2 a ha
  exact ⟨h0, by omega⟩
 refine ⟨(grey_of r2).1, gi _ g1 r2, fun g hg => (grey_of (r1 g hg)).1, fun g hg => gi g (g2.2 g hg) (r1 g hg), hb, hv, fun v hv => ?_, r3, ?_⟩
 ·obtain ⟨h1, h2⟩ : (-9223372036854775808 : Int) ≤ v.2.1 ∧ v.2.1 ≤ 9223372036854775807 := (g3.2 v hv).2.1
  omega
 ·by_cases ho : m.2.2.2.1 = -1
  ·rw [if_pos ho] at r4
   exact .inl ⟨ho, of_decide_eq_true r4⟩
  ·rw [if_neg ho] at r4
   exact .inr (of_decide_eq_true r4)
theorem GreyP.grB {g : Grey} (p : GreyP g) (hi : ∀ a ∈ g.2.1, inI a) : grB g = true := by
 unfold Den.grB
 rw [Bool.and_eq_true, List.all_eq_true]
 exact ⟨decide_eq_true ⟨p.r0, p.r16, p.len⟩, fun a ha => decide_eq_true (hi a ha).1⟩
theorem MkP.rtB {h : Heap} {m : MarkT} (p : MkP h m) : rtB h m = true := by
 unfold Den.rtB
 rw [List.all_eq_true.2 fun g hg => (p.b g hg).grB (p.bi g hg), p.g.grB p.gi, decide_eq_true p.cur]
 simp only [Bool.true_and]
 rcases p.ob with ⟨h1, h2⟩ | h1
 ·rw [if_pos h1, decide_eq_true h2]
 ·have hok := (fe_ok h1).1
  have := fndB_rng (og_ok hok).1
  rw [if_neg (by omega)]
  exact decide_eq_true h1
end Go.Proofs.YtkjpakaidjpjgaaGreatDoor.Den
