/- Pure laws. -/
import Derived.Test.YtkjpakaidjpjgaaGreatDoorDfnFz
/- Pure laws: words, loops. -/
namespace Go.Proofs.YtkjpakaidjpjgaaGreatDoor.Dfn
open Go
set_option linter.unusedVariables false
set_option linter.unusedSimpArgs false
theorem wi64_id {n : Int} (h1 : -9223372036854775808 ≤ n) (h2 : n < 9223372036854775808) : wi64 n = n := by
 have : IntKind.wrap .i64 n = (if (n % 18446744073709551616) ≥ 9223372036854775808 then n % 18446744073709551616 - 18446744073709551616 else n % 18446744073709551616) := by
  simp [IntKind.wrap, IntKind.bits, IntKind.signed]
 rw [wi64, this]; split <;> omega
theorem wi64_rng (n : Int) : -9223372036854775808 ≤ wi64 n ∧ wi64 n < 9223372036854775808 := by
 have : IntKind.wrap .i64 n = (if (n % 18446744073709551616) ≥ 9223372036854775808 then n % 18446744073709551616 - 18446744073709551616 else n % 18446744073709551616) := by
  simp [IntKind.wrap, IntKind.bits, IntKind.signed]
 rw [wi64, this]; split <;> omega
theorem wu64_eq (n : Int) : wu64 n = n % 18446744073709551616 := by
 simp [wu64, IntKind.wrap, IntKind.bits, IntKind.signed]
theorem wu32_eq (n : Int) : wu32 n = n % 4294967296 := by
 simp [wu32, IntKind.wrap, IntKind.bits, IntKind.signed]
theorem wu64_id {n : Int} (h1 : 0 ≤ n) (h2 : n < 18446744073709551616) : wu64 n = n := by rw [wu64_eq]; omega
theorem wu32_id {n : Int} (h1 : 0 ≤ n) (h2 : n < 4294967296) : wu32 n = n := by rw [wu32_eq]; omega
theorem iterL_rule {h o r : U} {step : h.T → Option (SRes h o r)} {Q : LRes o r → Prop} (I : Nat → h.T → Prop)
  (hs : ∀ n x, I n x → (∃ m y, m < n ∧ step x = some (.next y) ∧ I m y) ∨ ∃ l, step x = some (.fin l) ∧ Q l) :
  ∀ fuel n x, n < fuel → I n x → ∃ l, iterL step fuel x = some l ∧ Q l := by
 intro fuel
 induction fuel with
 | zero => intro n x h; omega
 | succ k ih =>
  intro n x h hI
  rcases hs n x hI with ⟨m, y, hm, e, hy⟩ | ⟨l, e, hl⟩
  ·obtain ⟨l, e', hl⟩ := ih m y (by omega) hy
   exact ⟨l, by simp only [iterL, e]; exact e', hl⟩
  ·exact ⟨l, by simp only [iterL, e], hl⟩
theorem iterL_count {h o r : U} {step : h.T → Option (SRes h o r)} {Q : LRes o r → Prop} (N : Nat) (g : Nat → h.T)
  (hs : ∀ i, i < N → step (g i) = some (.next (g (i + 1))) ∨ ∃ l, step (g i) = some (.fin l) ∧ Q l)
  (he : ∃ l, step (g N) = some (.fin l) ∧ Q l) {fuel : Nat} (hf : N < fuel) {x : h.T} (hx : x = g 0) : ∃ l, iterL step fuel x = some l ∧ Q l := by
 subst hx
 refine iterL_rule (fun n x => ∃ i, i ≤ N ∧ n = N - i ∧ x = g i) ?_ fuel N _ hf ⟨0, by omega, by omega, rfl⟩
 rintro n x ⟨i, hi, rfl, rfl⟩
 by_cases h : i < N
 ·rcases hs i h with e | e
  ·exact .inl ⟨N - (i + 1), _, by omega, e, i + 1, by omega, rfl, rfl⟩
  ·exact .inr e
 ·obtain rfl : i = N := by omega
  exact .inr he
theorem iterL_run {h o r : U} {step : h.T → Option (SRes h o r)} (N : Nat) (g : Nat → h.T) {l : LRes o r}
  (hs : ∀ i, i < N → step (g i) = some (.next (g (i + 1)))) (he : step (g N) = some (.fin l)) {fuel : Nat} (hf : N < fuel) {x : h.T} (hx : x = g 0) : iterL step fuel x = some l := by
 obtain ⟨l', e, rfl⟩ := iterL_count (Q := fun x => x = l) N g (fun i hi => .inl (hs i hi)) ⟨l, he, rfl⟩ hf hx
 exact e
theorem ibeq (a b : Int) : (a == b) = decide (a = b) := rfl
theorem ibne (a b : Int) : (a != b) = decide (¬ a = b) := by rw [bne, ibeq, decide_not]
theorem condn {α : Type} (b : Bool) (x y : α) : (bif !b then x else y) = bif b then y else x := by cases b <;> rfl
theorem get_d {α} (xs : List α) (i : Nat) (z : α) (h : i < xs.length) : xs.getD i z = xs[i] := by
 simp [List.getD, h]
end Go.Proofs.YtkjpakaidjpjgaaGreatDoor.Dfn
/- Pure laws: classes, bits, spans, the heap's form. -/
namespace Go.Proofs.YtkjpakaidjpjgaaGreatDoor.Dfn
open Go
set_option linter.unusedVariables false
set_option linter.unusedSimpArgs false
set_option maxRecDepth 10000
def cw (c : Int) : Int := if c = 0 then 2 else if c = 1 then 4 else if c = 2 then 8 else if c = 3 then 16 else 0
def cb (c : Int) : Int := if c = 0 then 16 else if c = 1 then 8 else if c = 2 then 4 else if c = 3 then 2 else 0
theorem class_cases (c : Int) : c = 0 ∨ c = 1 ∨ c = 2 ∨ c = 3 ∨ (c < 0 ∨ 3 < c) := by omega
theorem cw_out {c : Int} (h : c < 0 ∨ 3 < c) : cw c = 0 := by
 unfold cw; rw [if_neg (by omega), if_neg (by omega), if_neg (by omega), if_neg (by omega)]
theorem cb_out {c : Int} (h : c < 0 ∨ 3 < c) : cb c = 0 := by
 unfold cb; rw [if_neg (by omega), if_neg (by omega), if_neg (by omega), if_neg (by omega)]
theorem class_is_eq (c : Int) : class_is (c, ()) = some (decide (0 ≤ c ∧ c < 4), ()) := by
 simp only [class_is, class_is_r, Bool.cond_decide]
 by_cases h : 0 ≤ c <;> simp [h]
theorem class_Words_eq (c : Int) : class_Words (c, ()) = some (cw c, ()) := by
 rcases class_cases c with rfl | rfl | rfl | rfl | h
 ·kernel_rfl
 ·kernel_rfl
 ·kernel_rfl
 ·kernel_rfl
 ·rw [cw_out h]
  simp only [class_Words, class_Words_r, class_is_eq]
  have : ¬ (0 ≤ c ∧ c < 4) := by omega
  simp [this]
theorem words4_eq (c : Int) : r04_Words (c, ()) = some (cw c, ()) := by
 rcases class_cases c with rfl | rfl | rfl | rfl | h
 ·kernel_rfl
 ·kernel_rfl
 ·kernel_rfl
 ·kernel_rfl
 ·rw [cw_out h]
  simp only [r04_Words, r04_Words_r, Bool.cond_decide]
  by_cases h1 : c < 0
  ·simp [h1]
  ·simp [h1, show c > 3 by omega]
theorem blocks4_eq (c : Int) : r04_Blocks (c, ()) = some (cb c, ()) := by
 rcases class_cases c with rfl | rfl | rfl | rfl | h
 ·kernel_rfl
 ·kernel_rfl
 ·kernel_rfl
 ·kernel_rfl
 ·rw [cb_out h]
  simp only [r04_Blocks, r04_Blocks_r, Bool.cond_decide]
  by_cases h1 : c < 0
  ·simp [h1]
  ·simp [h1, show c > 3 by omega]
def bit (b : Int) (i : Nat) : Bool := decide (b / 2 ^ i % 2 = 1)
theorem has_eq {b : Int} (hb : 0 ≤ b) (hb' : b < 4294967296) (i : Int) : r03_Has (b, i, ()) = some (decide (0 ≤ i ∧ i ≤ 31) && bit b i.toNat, ()) := by
 simp only [r03_Has, r03_Has_r, Bool.cond_decide]
 by_cases h1 : i < 0
 ·simp [h1, show ¬ 0 ≤ i by omega]
 by_cases h2 : i > 31
 ·simp [h1, h2, show ¬ i ≤ 31 by omega]
 rw [if_neg h1, if_neg h2]
 have hr : r03_Has_l0 (b, i, 0, ()) = some (.out (b / 2 ^ i.toNat, ())) := by
  unfold r03_Has_l0
  refine iterL_run i.toNat (fun j => (b / 2 ^ j, i, (j : Int), ())) ?_ ?_ (by omega) (by simp)
  ·intro j hj
   have h0 : 0 ≤ b / 2 ^ j := Int.ediv_nonneg hb (Int.le_of_lt (Int.pow_pos (by decide)))
   have h3 : b / 2 ^ j ≤ b := Int.ediv_le_self _ hb
   simp only [r03_Has_s0, r03_Has_s0r]
   rw [show decide ((j : Int) < i) = true from decide_eq_true (by omega), cond_true, wi64_id (by omega) (by omega), Int.tdiv_eq_ediv_of_nonneg h0, wu32_id (by omega) (by omega), Int.ediv_ediv_of_nonneg (Int.le_of_lt (Int.pow_pos (by decide))), ← Int.pow_succ]
   rfl
  ·simp only [r03_Has_s0, r03_Has_s0r]
   rw [show decide ((i.toNat : Int) < i) = false from decide_eq_false (by omega)]
   rfl
 have e : (0 : Int) = ((0 : Nat) : Int) := rfl
 simp only [hr, Option.bind_some]
 rw [Int.tmod_eq_emod_of_nonneg (Int.ediv_nonneg hb (Int.le_of_lt (Int.pow_pos (by decide))))]
 simp [bit, show 0 ≤ i by omega, show i ≤ 31 by omega]
 rfl
theorem bits_lt {b : Int} (hb : 0 ≤ b) (hb' : b < 4294967296) {k : Nat} (h : ∀ i, k ≤ i → i < 32 → bit b i = false) (hk : k ≤ 32) : b < 2 ^ k := by
 have : ∀ d, d ≤ 32 - k → b < 2 ^ (32 - d) := by
  intro d
  induction d with
  | zero => intro _; exact hb'
  | succ d ih =>
   intro hd
   have h1 := ih (by omega)
   have h2 := h (32 - (d + 1)) (by omega) (by omega)
   rw [show 32 - d = (32 - (d + 1)) + 1 by omega, Int.pow_succ] at h1
   simp only [bit, decide_eq_false_iff_not] at h2
   have hp : (0 : Int) < 2 ^ (32 - (d + 1)) := Int.pow_pos (by decide)
   generalize (2 : Int) ^ (32 - (d + 1)) = p at h1 h2 hp ⊢
   have h3 : b / p < 2 := Int.ediv_lt_of_lt_mul hp (by omega)
   have h4 : 0 ≤ b / p := Int.ediv_nonneg hb (Int.le_of_lt hp)
   have h5 : b / p = 0 := by omega
   exact Int.lt_of_not_ge fun h6 => by
    have := Int.le_ediv_of_mul_le hp (show 1 * p ≤ b by omega)
    omega
 have := this (32 - k) (Nat.le_refl _)
 rwa [show 32 - (32 - k) = k by omega] at this
theorem two_pow_le {k i : Nat} (h : k ≤ i) : (2 : Int) ^ k ≤ 2 ^ i := by
 have := Nat.pow_le_pow_right (n := 2) (by decide) h
 exact_mod_cast this
theorem bit_lt {b : Int} (hb : 0 ≤ b) {i k : Nat} (h : b < 2 ^ k) (hk : k ≤ i) : bit b i = false := by
 have : b / 2 ^ i = 0 := Int.ediv_eq_zero_of_lt hb (Int.lt_of_lt_of_le h (two_pow_le hk))
 simp [bit, this]
def rightB (s : Span) : Bool := if s.1 = 0 then decide (s.2.1 = 0 ∧ s.2.2.1 = 0) else decide ((s.1 = 1 ∨ s.1 = 2) ∧ 0 ≤ s.2.1 ∧ s.2.1 ≤ 3 ∧ s.2.2.1 < 2 ^ (cb s.2.1).toNat)
theorem inUse_eq (s : Span) : r06_InUse (s, ()) = some (decide (s.1 = 1 ∨ s.1 = 2), ()) := by
 simp only [r06_InUse, r06_InUse_r, ibeq, Bool.cond_decide]
 by_cases h : s.1 = 1
 ·simp [h]
 ·simp [h]
theorem cb_le (c : Int) : 0 ≤ cb c ∧ cb c ≤ 16 := by
 unfold cb; split <;> (try split) <;> (try split) <;> (try split) <;> omega
theorem cw_le (c : Int) : 0 ≤ cw c ∧ cw c ≤ 16 := by
 unfold cw; split <;> (try split) <;> (try split) <;> (try split) <;> omega
theorem right_eq (s : Span) (h0 : 0 ≤ s.2.2.1) (h1 : s.2.2.1 < 4294967296) : r06_Right (s, ()) = some (rightB s, ()) := by
 simp only [r06_Right, r06_Right_r, inUse_eq, Option.bind_some, Bool.cond_decide, blocks4_eq, rightB, ibeq]
 by_cases hs : s.1 = 0
 ·by_cases hc : s.2.1 = 0
  ·simp [hs, hc]
  ·simp [hs, hc]
 simp only [if_neg hs]
 by_cases hu : s.1 = 1 ∨ s.1 = 2
 ·by_cases c0 : s.2.1 < 0
  ·simp [hu, c0, show ¬ 0 ≤ s.2.1 by omega]
  by_cases c3 : s.2.1 > 3
  ·simp [hu, c0, c3, show ¬ s.2.1 ≤ 3 by omega]
  have hl := cb_le s.2.1
  have : ∃ l, r06_Right_l0 (cb s.2.1, s, ()) = some l ∧ l = (if s.2.2.1 < 2 ^ (cb s.2.1).toNat then .out () else .ret (false, ())) := by
   unfold r06_Right_l0
   refine iterL_rule (fun n x => ∃ i : Nat, (cb s.2.1).toNat ≤ i ∧ i ≤ 32 ∧ n = 32 - i ∧ x = ((i : Int), s, ()) ∧ ∀ j, (cb s.2.1).toNat ≤ j → j < i → bit s.2.2.1 j = false) ?_ _ (32 - (cb s.2.1).toNat) _ (by omega) ⟨(cb s.2.1).toNat, by omega, by omega, rfl, by rw [Int.toNat_of_nonneg hl.1], fun j h2 h3 => by omega⟩
   rintro n x ⟨i, i1, i2, rfl, rfl, hi⟩
   simp only [r06_Right_s0, r06_Right_s0r, has_eq h0 h1, Option.bind_some, Bool.cond_decide]
   by_cases h : (i : Int) < 32
   ·rw [if_pos h]
    cases hb : bit s.2.2.1 i with
    | true =>
     refine .inr ⟨.ret (false, ()), by simp [hb, show (i : Int) ≤ 31 by omega], ?_⟩
     rw [if_neg]
     intro hlt
     rw [bit_lt h0 hlt i1] at hb
     cases hb
    | false =>
     refine .inl ⟨32 - (i + 1), (((i + 1 : Nat) : Int), s, ()), by omega, ?_, i + 1, by omega, by omega, rfl, rfl, fun j j1 j2 => ?_⟩
     ·simp only [Int.toNat_natCast, hb, Bool.and_false, cond_false]
      rw [wi64_id (by omega) (by omega)]; rfl
     ·by_cases e : j = i
      ·rw [e, hb]
      ·exact hi j j1 (by omega)
   ·rw [if_neg h]
    refine .inr ⟨_, rfl, ?_⟩
    rw [if_pos]
    exact bits_lt h0 h1 (fun j j1 j2 => hi j j1 (by omega)) (by omega)
  obtain ⟨l, e1, e2⟩ := this
  simp only [e1, e2, Option.bind_some]
  by_cases hlt : s.2.2.1 < 2 ^ (cb s.2.1).toNat
  ·simp [hu, c0, c3, hlt]; omega
  ·simp [hu, c0, c3, hlt]
 ·simp [hu]
end Go.Proofs.YtkjpakaidjpjgaaGreatDoor.Dfn
/- Pure laws: the heap's form; the program's blocks and headers. -/
namespace Go.Proofs.YtkjpakaidjpjgaaGreatDoor.Dfn
open Go
set_option linter.unusedVariables false
set_option linter.unusedSimpArgs false
set_option maxRecDepth 10000
def formB (h : Heap) : Bool := decide (1 ≤ h.2.1.length ∧ h.2.1.length ≤ 16 ∧ h.1.length = 32 * h.2.1.length) && h.2.1.all rightB
theorem good_span {h : Heap} (g : Good cHeap h) {s : Span} (hs : s ∈ h.2.1) : 0 ≤ s.2.2.1 ∧ s.2.2.1 < 4294967296 := by
 obtain ⟨a, b⟩ : (0 : Int) ≤ s.2.2.1 ∧ s.2.2.1 ≤ 4294967295 := (g.2.1.2 s hs).2.2.1
 omega
theorem good_word {h : Heap} (g : Good cHeap h) {w : Int} (hs : w ∈ h.1) : 0 ≤ w ∧ w < 18446744073709551616 := by
 obtain ⟨a, b⟩ : (0 : Int) ≤ w ∧ w ≤ 18446744073709551615 := g.1.2 w hs
 omega
theorem form_eq {h : Heap} (g : Good cHeap h) : r07_Form (h, ()) = some (formB h, ()) := by
 simp only [r07_Form, r07_Form_r, Bool.cond_decide, ibne, formB]
 have hl : (h.2.1.length : Int) ≤ 9223372036854775807 := Int.ofNat_le.2 g.2.1.1
 by_cases h1 : (h.2.1.length : Int) < 1
 ·simp [h1, show ¬ 1 ≤ h.2.1.length by omega]
 by_cases h2 : (h.2.1.length : Int) > 16
 ·simp [h1, h2, show ¬ h.2.1.length ≤ 16 by omega]
 rw [if_neg h1, if_neg h2, wi64_id (by omega) (by omega)]
 by_cases h3 : (h.1.length : Int) = 32 * (h.2.1.length : Int)
 ·rw [if_neg (by simpa using h3)]
  obtain ⟨l, e1, e2⟩ : ∃ l, r07_Form_l0 (0, h, ()) = some l ∧ l = (if h.2.1.all rightB then .out () else .ret (false, ())) := by
   unfold r07_Form_l0
   refine iterL_rule (fun n x => ∃ i : Nat, i ≤ h.2.1.length ∧ n = h.2.1.length - i ∧ x = ((i : Int), h, ()) ∧ ∀ j (hj : j < i) (hj' : j < h.2.1.length), rightB h.2.1[j] = true) ?_ _ h.2.1.length _ (by omega) ⟨0, by omega, rfl, rfl, fun j hj => by omega⟩
   rintro n x ⟨i, i2, rfl, rfl, hi⟩
   simp only [r07_Form_s0, r07_Form_s0r, Bool.cond_decide]
   by_cases hn : i < h.2.1.length
   ·rw [if_pos (by omega), if_pos (by omega), if_pos (by omega), Int.toNat_natCast, get_d _ _ _ hn]
    obtain ⟨b0, b1⟩ := good_span g (List.getElem_mem hn)
    rw [right_eq _ b0 b1, Option.bind_some, condn]
    cases hr : rightB h.2.1[i] with
    | true =>
     refine .inl ⟨h.2.1.length - (i + 1), (((i + 1 : Nat) : Int), h, ()), by omega, ?_, i + 1, by omega, by omega, rfl, fun j j1 j2 => ?_⟩
     ·rw [wi64_id (by omega) (by omega)]; rfl
     ·by_cases e : j = i
      ·subst e; exact hr
      ·exact hi j (by omega) j2
    | false =>
     refine .inr ⟨_, rfl, ?_⟩
     rw [if_neg]
     intro ha
     have := List.all_eq_true.1 ha _ (List.getElem_mem hn)
     rw [hr] at this; cases this
   ·rw [if_neg (by omega)]
    refine .inr ⟨_, rfl, ?_⟩
    rw [if_pos]
    rw [List.all_eq_true]
    intro s hs
    obtain ⟨j, hj, rfl⟩ := List.mem_iff_getElem.1 hs
    exact hi j (by omega) hj
  simp only [e1, e2, Option.bind_some]
  have : 1 ≤ h.2.1.length ∧ h.2.1.length ≤ 16 ∧ h.1.length = 32 * h.2.1.length := by omega
  simp only [this, decide_true, Bool.true_and]
  cases h.2.1.all rightB <;> rfl
 ·rw [if_pos h3]
  have : ¬ (1 ≤ h.2.1.length ∧ h.2.1.length ≤ 16 ∧ h.1.length = 32 * h.2.1.length) := by omega
  simp [this]
structure FormP (h : Heap) : Prop where
 n1 : 1 ≤ h.2.1.length
 n16 : h.2.1.length ≤ 16
 len : h.1.length = 32 * h.2.1.length
 right : ∀ s ∈ h.2.1, rightB s = true
 word : ∀ w ∈ h.1, 0 ≤ w ∧ w < 18446744073709551616
theorem form_of {h : Heap} (g : Good cHeap h) (hb : formB h = true) : FormP h := by
 simp only [formB, Bool.and_eq_true, decide_eq_true_eq, List.all_eq_true] at hb
 exact ⟨hb.1.1, hb.1.2.1, hb.1.2.2, hb.2, fun w hw => good_word g hw⟩
theorem FormP.span {h : Heap} (f : FormP h) {s : Span} (hs : s ∈ h.2.1) (hu : s.1 ≠ 0) : 0 ≤ s.2.1 ∧ s.2.1 ≤ 3 := by
 have := f.right s hs
 simp only [rightB, if_neg hu, decide_eq_true_eq] at this
 omega
end Go.Proofs.YtkjpakaidjpjgaaGreatDoor.Dfn
/- Pure laws: blocks. -/
namespace Go.Proofs.YtkjpakaidjpjgaaGreatDoor.Dfn
open Go
set_option linter.unusedVariables false
set_option linter.unusedSimpArgs false
set_option maxRecDepth 100000
def sz : Span := (0, 0, 0, ())
theorem page_eq (h : Heap) (p : Int) : heap_page (h, p, ()) = some (if 0 ≤ p ∧ p < h.2.1.length then (h.2.1.getD p.toNat sz, true, ()) else (sz, false, ())) := by
 simp only [heap_page, heap_page_r, Bool.cond_decide, sz]
 by_cases h1 : p < 0
 ·rw [if_pos h1, if_neg (by omega)]
 by_cases h2 : p ≥ (h.2.1.length : Int)
 ·rw [if_neg h1, if_pos h2, if_neg (by omega)]
 rw [if_neg h1, if_neg h2, if_pos (by omega), if_pos (by omega), if_pos (by omega)]
def spanOf (h : Heap) (at_ : Int) : Span := h.2.1.getD (at_ / 32).toNat sz
def fndB (h : Heap) (at_ : Int) : Bool := decide (0 ≤ at_ ∧ at_ < 32 * h.2.1.length ∧ (spanOf h at_).1 ≠ 0 ∧ at_ % cw (spanOf h at_).2.1 = 0)
def fnd (h : Heap) (at_ : Int) : Int × Int × Bool × Unit := if fndB h at_ then (at_ / 32, at_ % 32 / cw (spanOf h at_).2.1, true, ()) else (0, 0, false, ())
theorem FormP.spanAt {h : Heap} (f : FormP h) {a : Int} (h0 : 0 ≤ a) (h1 : a < 32 * h.2.1.length) (hu : (spanOf h a).1 ≠ 0) : 0 ≤ (spanOf h a).2.1 ∧ (spanOf h a).2.1 ≤ 3 := by
 have hn : (a / 32).toNat < h.2.1.length := by omega
 unfold spanOf at *
 rw [get_d _ _ _ hn] at *
 exact f.span (List.getElem_mem hn) hu
theorem cw_pos {c : Int} (h0 : 0 ≤ c) (h3 : c ≤ 3) : 2 ≤ cw c := by
 unfold cw; split <;> (try split) <;> (try split) <;> (try split) <;> omega
theorem find_eq {h : Heap} (f : FormP h) {a : Int} (l : -9223372036854775808 ≤ a) (u : a < 9223372036854775808) : heap_Find (h, a, ()) = some (fnd h a) := by
 have hn := f.n16
 simp only [heap_Find, heap_Find_r, page_eq, Option.bind_some, Bool.cond_decide, ibeq, fnd, fndB, decide_eq_true_eq]
 by_cases h0 : a < 0
 ·rw [if_pos h0, if_neg (by omega)]
 rw [if_neg h0, Int.tdiv_eq_ediv_of_nonneg (by omega), wi64_id (by omega) (by omega)]
 by_cases h1 : a < 32 * h.2.1.length
 ·rw [if_pos (by omega)]
  simp only [Bool.not_true, cond_false]
  change (if (spanOf h a).1 = 0 then _ else (arena_Place ((spanOf h a).2.1, a, ())).bind _) = _
  by_cases hu : (spanOf h a).1 = 0
  ·rw [if_pos hu, if_neg (fun h => h.2.2.1 hu)]
  rw [if_neg hu]
  obtain ⟨c0, c3⟩ := f.spanAt (by omega) h1 hu
  have hc := cw_pos c0 c3
  have hc' := cw_le (spanOf h a).2.1
  simp only [arena_Place, arena_Place_r, class_Words_eq, Option.bind_some, Bool.cond_decide, ibeq, ibne]
  generalize cw (spanOf h a).2.1 = c at *
  rw [if_neg (by omega), if_neg (by omega), if_neg (by omega), if_neg (by omega), Int.tmod_eq_emod_of_nonneg (by omega), Int.tdiv_eq_ediv_of_nonneg (by omega), Int.tmod_eq_emod_of_nonneg (by omega), Int.tdiv_eq_ediv_of_nonneg (by omega)]
  by_cases hm : a % c = 0
  ·have hd : a % 32 / c ≤ a % 32 := Int.ediv_le_self _ (by omega)
   have hd' : 0 ≤ a % 32 / c := Int.ediv_nonneg (by omega) (by omega)
   rw [if_neg (by simpa using hm), if_neg (by omega), if_pos ⟨by omega, h1, hu, hm⟩, wi64_id (by omega) (by omega), wi64_id (by omega) (by omega)]
   rfl
  ·rw [if_pos hm, if_neg (fun h => hm h.2.2.2)]
   rfl
 ·rw [if_neg (by omega)]
  simp only [Bool.not_false, cond_true]
  rw [if_neg (fun h => h1 h.2.1)]
theorem fndB_rng {h : Heap} {a : Int} (hb : fndB h a = true) : 0 ≤ a ∧ a < 32 * h.2.1.length := by
 simp only [fndB, decide_eq_true_eq] at hb; omega
end Go.Proofs.YtkjpakaidjpjgaaGreatDoor.Dfn
/- Pure laws: the references' objects, and painting. -/
namespace Go.Proofs.YtkjpakaidjpjgaaGreatDoor.Dfn
open Go
set_option linter.unusedVariables false
set_option linter.unusedSimpArgs false
set_option maxRecDepth 100000
theorem class4 {c : Int} (h0 : 0 ≤ c) (h3 : c ≤ 3) : (cw c = 2 ∧ cb c = 16) ∨ (cw c = 4 ∧ cb c = 8) ∨ (cw c = 8 ∧ cb c = 4) ∨ (cw c = 16 ∧ cb c = 2) := by
 obtain rfl | rfl | rfl | rfl : c = 0 ∨ c = 1 ∨ c = 2 ∨ c = 3 := by omega
 all_goals decide
theorem find7_l0 {h : Heap} (f : FormP h) (a : Int) (p : Nat) (hp : p < h.2.1.length) (hu : (h.2.1.getD p sz).1 ≠ 0) :
  r07_Find_l0 (a, p, 0, h, ()) = some (if 32 * (p : Int) ≤ a ∧ a < 32 * (p : Int) + 32 ∧ a % 32 % cw (h.2.1.getD p sz).2.1 = 0 then .ret (p, a % 32 / cw (h.2.1.getD p sz).2.1, true, ()) else .out (a, p, h, ())) := by
 have hn := f.n16
 have hc : 0 ≤ (h.2.1.getD p sz).2.1 ∧ (h.2.1.getD p sz).2.1 ≤ 3 := by
  rw [get_d _ _ _ hp] at *
  exact f.span (List.getElem_mem hp) hu
 have h4 := class4 hc.1 hc.2
 have key : ∃ l, r07_Find_l0 (a, p, 0, h, ()) = some l ∧ l = (if 32 * (p : Int) ≤ a ∧ a < 32 * (p : Int) + 32 ∧ a % 32 % cw (h.2.1.getD p sz).2.1 = 0 then .ret (p, a % 32 / cw (h.2.1.getD p sz).2.1, true, ()) else .out (a, p, h, ())) := by
  unfold r07_Find_l0
  refine iterL_rule (fun n x => ∃ i : Nat, (i : Int) ≤ cb (h.2.1.getD p sz).2.1 ∧ n = (cb (h.2.1.getD p sz).2.1).toNat - i ∧ x = (a, (p : Int), (i : Int), h, ()) ∧ (32 * (p : Int) ≤ a → a < 32 * (p : Int) + 32 → a % 32 % cw (h.2.1.getD p sz).2.1 = 0 → (i : Int) ≤ a % 32 / cw (h.2.1.getD p sz).2.1)) ?_ _ (cb (h.2.1.getD p sz).2.1).toNat _ (by omega) ⟨0, by omega, by omega, rfl, fun h1 h2 h3 => ?_⟩
  ·rintro n x ⟨i, i1, rfl, rfl, hi⟩
   simp only [r07_Find_s0, r07_Find_s0r, Bool.cond_decide, blocks4_eq, words4_eq, Option.bind_some, ibeq, Int.toNat_natCast]
   rw [if_pos (by omega), if_pos (by omega)]
   simp only [show ((0 : Int), (0 : Int), (0 : Int), ()) = sz from rfl]
   generalize (h.2.1.getD p sz).2.1 = c at *
   generalize cw c = w at *
   generalize cb c = b at *
   clear hc hu f
   by_cases hb : (i : Int) < b
   ·rw [if_pos hb, if_pos (by omega), if_pos (by omega)]
    have hm : 0 ≤ (i : Int) * w ∧ (i : Int) * w ≤ 32 := by
     rcases h4 with ⟨rfl, rfl⟩ | ⟨rfl, rfl⟩ | ⟨rfl, rfl⟩ | ⟨rfl, rfl⟩ <;> omega
    rw [wi64_id (n := 32 * (p : Int)) (by omega) (by omega), wi64_id (n := (i : Int) * w) (by omega) (by omega), wi64_id (by omega) (by omega)]
    by_cases e : 32 * (p : Int) + (i : Int) * w = a
    ·right
     refine ⟨_, by rw [if_pos e], ?_⟩
     rw [if_pos (by rcases h4 with ⟨rfl, rfl⟩ | ⟨rfl, rfl⟩ | ⟨rfl, rfl⟩ | ⟨rfl, rfl⟩ <;> omega)]
     have : a % 32 / w = i := by rcases h4 with ⟨rfl, rfl⟩ | ⟨rfl, rfl⟩ | ⟨rfl, rfl⟩ | ⟨rfl, rfl⟩ <;> omega
     rw [this]
    ·left
     refine ⟨(b).toNat - (i + 1), (a, (p : Int), ((i + 1 : Nat) : Int), h, ()), by omega, ?_, i + 1, by omega, rfl, rfl, fun h1 h2 h3 => ?_⟩
     ·rw [if_neg e, wi64_id (by omega) (by omega)]; rfl
     ·have := hi h1 h2 h3
      rcases h4 with ⟨rfl, rfl⟩ | ⟨rfl, rfl⟩ | ⟨rfl, rfl⟩ | ⟨rfl, rfl⟩ <;> omega
   ·right
    refine ⟨_, by rw [if_neg hb], ?_⟩
    rw [if_neg]
    rintro ⟨h1, h2, h3⟩
    have := hi h1 h2 h3
    rcases h4 with ⟨rfl, rfl⟩ | ⟨rfl, rfl⟩ | ⟨rfl, rfl⟩ | ⟨rfl, rfl⟩ <;> omega
  ·exact Int.ediv_nonneg (by omega) (by have := cw_le (h.2.1.getD p sz).2.1; omega)
 obtain ⟨l, e, rfl⟩ := key
 exact e
theorem find7_eq {h : Heap} (f : FormP h) (a : Int) : r07_Find (h, a, ()) = some (fnd h a) := by
 have hn := f.n16
 have key : ∃ l, r07_Find_l1 (a, 0, h, ()) = some l ∧ l = (if fndB h a = true then .ret (fnd h a) else .out ()) := by
  unfold r07_Find_l1
  refine iterL_rule (fun n x => ∃ p : Nat, p ≤ h.2.1.length ∧ n = h.2.1.length - p ∧ x = (a, (p : Int), h, ()) ∧ (fndB h a = true → (p : Int) ≤ a / 32)) ?_ _ h.2.1.length _ (by omega) ⟨0, by omega, rfl, rfl, fun hb => ?_⟩
  ·rintro n x ⟨p, p1, rfl, rfl, hi⟩
   simp only [r07_Find_s1, r07_Find_s1r, Bool.cond_decide, ibeq, Int.toNat_natCast]
   by_cases hp : p < h.2.1.length
   ·rw [if_pos (by omega), if_pos (by omega), if_pos (by omega)]
    simp only [show ((0 : Int), (0 : Int), (0 : Int), ()) = sz from rfl]
    have hnx : (fndB h a = true → (p : Int) ≠ a / 32) → wi64 ((p : Int) + 1) = ((p + 1 : Nat) : Int) ∧ (fndB h a = true → ((p + 1 : Nat) : Int) ≤ a / 32) := fun hh => ⟨wi64_id (by omega) (by omega), fun hb => by
     have := hi hb; have := hh hb; omega⟩
    by_cases hu : (h.2.1.getD p sz).1 = 0
    ·left
     obtain ⟨e1, e2⟩ := hnx (fun hb e => by
      simp only [fndB, decide_eq_true_eq] at hb
      have hb := hb.2.2.1
      rw [spanOf, ← e, Int.toNat_natCast] at hb
      exact hb hu)
     exact ⟨h.2.1.length - (p + 1), (a, ((p + 1 : Nat) : Int), h, ()), by omega, by rw [if_pos hu, e1], p + 1, by omega, rfl, rfl, e2⟩
    ·rw [if_neg hu, find7_l0 f a p hp hu]
     have hs : (p : Int) = a / 32 → spanOf h a = h.2.1.getD p sz := fun e => by
      unfold spanOf; rw [← e, Int.toNat_natCast]
     have hmod : a % 32 % cw (h.2.1.getD p sz).2.1 = 0 ↔ a % cw (h.2.1.getD p sz).2.1 = 0 := by
      have hc : 0 ≤ (h.2.1.getD p sz).2.1 ∧ (h.2.1.getD p sz).2.1 ≤ 3 := by
       rw [get_d _ _ _ hp] at *
       exact f.span (List.getElem_mem hp) hu
      rcases class4 hc.1 hc.2 with ⟨e1, e'⟩ | ⟨e1, e'⟩ | ⟨e1, e'⟩ | ⟨e1, e'⟩ <;> rw [e1] <;> omega
     by_cases hh : 32 * (p : Int) ≤ a ∧ a < 32 * (p : Int) + 32 ∧ a % 32 % cw (h.2.1.getD p sz).2.1 = 0
     ·right
      have e : (p : Int) = a / 32 := by omega
      have hb : fndB h a = true := by
       simp only [fndB, decide_eq_true_eq, hs e]
       exact ⟨by omega, by omega, hu, hmod.1 hh.2.2⟩
      refine ⟨_, by rw [if_pos hh]; rfl, ?_⟩
      rw [if_pos hb, fnd, if_pos hb, hs e, ← e]
     ·left
      obtain ⟨e1, e2⟩ := hnx (fun hb e => by
       simp only [fndB, decide_eq_true_eq, hs e] at hb
       exact hh ⟨by omega, by omega, hmod.2 hb.2.2.2⟩)
      exact ⟨h.2.1.length - (p + 1), (a, ((p + 1 : Nat) : Int), h, ()), by omega, by rw [if_neg hh]; simp only [Option.bind_some]; rw [e1], p + 1, by omega, rfl, rfl, e2⟩
   ·rw [if_neg (by omega)]
    right
    refine ⟨_, rfl, ?_⟩
    rw [if_neg]
    intro hb
    have := hi hb
    have := fndB_rng hb
    omega
  ·have := fndB_rng hb; omega
 obtain ⟨l, e, rfl⟩ := key
 simp only [r07_Find, r07_Find_r, e, Option.bind_some]
 by_cases hb : fndB h a = true
 ·simp only [if_pos hb]
 ·simp only [if_neg hb, fnd]
end Go.Proofs.YtkjpakaidjpjgaaGreatDoor.Dfn
/- Pure laws: bits as the program has them. -/
namespace Go.Proofs.YtkjpakaidjpjgaaGreatDoor.Dfn
open Go
set_option linter.unusedVariables false
set_option linter.unusedSimpArgs false
set_option maxRecDepth 100000
theorem pow_cast (k : Nat) : ((2 : Int) ^ k) = ((2 ^ k : Nat) : Int) := (Int.natCast_pow 2 k).symm
theorem class_Blocks_eq (c : Int) : class_Blocks (c, ()) = some (cb c, ()) := by
 rcases class_cases c with rfl | rfl | rfl | rfl | h
 ·kernel_rfl
 ·kernel_rfl
 ·kernel_rfl
 ·kernel_rfl
 ·rw [cb_out h]
  simp only [class_Blocks, class_Blocks_r, class_is_eq]
  have : ¬ (0 ≤ c ∧ c < 4) := by omega
  simp [this]
theorem class_Fields_eq (c : Int) : class_Fields (c, ()) = some (if 0 ≤ c ∧ c < 4 then cw c - 1 else 0, ()) := by
 rcases class_cases c with rfl | rfl | rfl | rfl | h
 ·kernel_rfl
 ·kernel_rfl
 ·kernel_rfl
 ·kernel_rfl
 ·have : ¬ (0 ≤ c ∧ c < 4) := by omega
  rw [if_neg this]
  simp only [class_Fields, class_Fields_r, class_is_eq]
  simp [this]
theorem span_inUse_eq (s : Span) : span_inUse (s, ()) = some (decide (s.1 = 1 ∨ s.1 = 2), ()) := by
 simp only [span_inUse, span_inUse_r, ibeq, Bool.cond_decide]
 by_cases h : s.1 = 1
 ·simp [h]
 ·simp [h]
theorem whole_eq (c : Int) : span_whole (c, ()) = some (2 ^ (cb c).toNat - 1, ()) := by
 rcases class_cases c with rfl | rfl | rfl | rfl | h
 ·kernel_rfl
 ·kernel_rfl
 ·kernel_rfl
 ·kernel_rfl
 ·rw [cb_out h]
  simp only [span_whole, span_whole_r, class_Blocks_eq, cb_out h, Option.bind_some]
  kernel_rfl
theorem one_eq (n : Int) : bits_one (n, ()) = some (if 0 ≤ n ∧ n < 32 then 2 ^ n.toNat else 0, ()) := by
 simp only [bits_one, bits_one_r, Bool.cond_decide]
 by_cases h1 : n < 0
 ·rw [if_pos h1, if_neg (by omega)]
 by_cases h2 : n ≥ 32
 ·rw [if_neg h1, if_pos h2, if_neg (by omega)]
 rw [if_neg h1, if_neg h2, if_neg h1, if_pos (by omega)]
 have hp : (2 : Nat) ^ n.toNat < 2 ^ 32 := Nat.pow_lt_pow_right (by decide) (by omega)
 have e : shiftI true .u32 1 n = wu32 (2 ^ n.toNat) := by
  simp only [shiftI, cond_true, IntKind.bits]
  rw [Nat.min_eq_left (by omega), Int.one_mul]
 have e2 := pow_cast n.toNat
 rw [e, e2, wu32_id (Int.natCast_nonneg _) (Int.ofNat_lt.2 hp)]
theorem bit_test (m i : Nat) : bit (m : Int) i = m.testBit i := by
 unfold bit
 have e2 := pow_cast i
 rw [Nat.testBit_eq_decide_div_mod_eq, e2]
 rw [decide_eq_decide]
 omega
theorem and32 (m k : Nat) (hm : m < 4294967296) (hk : k < 4294967296) : bitsI .and .u32 (m : Int) (k : Int) = ((m &&& k : Nat) : Int) := by
 change wu32 (((BitVec.ofInt 32 (m : Int)) &&& (BitVec.ofInt 32 (k : Int))).toNat : Int) = _
 rw [BitVec.ofInt_natCast, BitVec.ofInt_natCast, BitVec.toNat_and, BitVec.toNat_ofNat, BitVec.toNat_ofNat, Nat.mod_eq_of_lt (by omega), Nat.mod_eq_of_lt (by omega)]
 have : m &&& k ≤ m := Nat.and_le_left
 rw [wu32_id (by omega) (by omega)]
theorem or32 (m k : Nat) (hm : m < 4294967296) (hk : k < 4294967296) : bitsI .or .u32 (m : Int) (k : Int) = ((m ||| k : Nat) : Int) := by
 change wu32 (((BitVec.ofInt 32 (m : Int)) ||| (BitVec.ofInt 32 (k : Int))).toNat : Int) = _
 rw [BitVec.ofInt_natCast, BitVec.ofInt_natCast, BitVec.toNat_or, BitVec.toNat_ofNat, BitVec.toNat_ofNat, Nat.mod_eq_of_lt (by omega), Nat.mod_eq_of_lt (by omega)]
 have : m ||| k < 2 ^ 32 := Nat.or_lt_two_pow (by omega) (by omega)
 rw [wu32_id (by omega) (by omega)]
theorem andNot32 (m k : Nat) (hm : m < 4294967296) (hk : k < 4294967296) : ∃ r : Nat, bitsI .andNot .u32 (m : Int) (k : Int) = (r : Int) ∧ r < 4294967296 ∧ ∀ i, r.testBit i = (m.testBit i && !k.testBit i) := by
 refine ⟨((BitVec.ofNat 32 m) &&& ~~~(BitVec.ofNat 32 k)).toNat, ?_, BitVec.isLt _, fun i => ?_⟩
 ·change wu32 (((BitVec.ofInt 32 (m : Int)) &&& ~~~(BitVec.ofInt 32 (k : Int))).toNat : Int) = _
  rw [BitVec.ofInt_natCast, BitVec.ofInt_natCast]
  have := BitVec.isLt ((BitVec.ofNat 32 m) &&& ~~~(BitVec.ofNat 32 k))
  rw [wu32_id (by omega) (by omega)]
 ·rw [BitVec.testBit_toNat]
  simp only [BitVec.getLsbD_and, BitVec.getLsbD_not, BitVec.getLsbD_ofNat]
  by_cases hi : i < 32
  ·simp [hi]
  ·have h1 : m.testBit i = false := Nat.testBit_lt_two_pow (Nat.lt_of_lt_of_le hm (Nat.pow_le_pow_right (n := 2) (by decide) (show 32 ≤ i by omega)))
   simp [hi, h1]
theorem bit_two (k i : Nat) : (2 ^ k : Nat).testBit i = decide (k = i) := Nat.testBit_two_pow ..
theorem hasP_eq {m : Int} (h0 : 0 ≤ m) (h1 : m < 4294967296) (n : Int) : bits_Has (m, n, ()) = some (decide (0 ≤ n ∧ n ≤ 31) && bit m n.toNat, ()) := by
 obtain ⟨m, rfl⟩ := Int.eq_ofNat_of_zero_le h0
 simp only [bits_Has, bits_Has_r, one_eq, Option.bind_some, ibne]
 by_cases hn : 0 ≤ n ∧ n < 32
 ·rw [if_pos hn]
  have hp : (2 : Nat) ^ n.toNat < 2 ^ 32 := Nat.pow_lt_pow_right (by decide) (by omega)
  have e2 := pow_cast n.toNat
  rw [e2, and32 m _ (by omega) hp, bit_test, decide_eq_true (show 0 ≤ n ∧ n ≤ 31 by omega), Bool.true_and]
  congr 1
  have : decide (¬ ((m &&& 2 ^ n.toNat : Nat) : Int) = 0) = m.testBit n.toNat := by
   have hb : (m &&& 2 ^ n.toNat).testBit n.toNat = m.testBit n.toNat := by
    rw [Nat.testBit_and, bit_two]; simp
   by_cases hz : m &&& 2 ^ n.toNat = 0
   ·rw [hz, Nat.zero_testBit] at hb
    rw [hz, ← hb]; rfl
   ·rw [decide_eq_true (by omega)]
    cases hc : m.testBit n.toNat
    ·exfalso; apply hz
     apply Nat.eq_of_testBit_eq
     intro i
     rw [Nat.testBit_and, bit_two, Nat.zero_testBit]
     by_cases e : n.toNat = i
     ·subst e; rw [hc]; rfl
     ·simp [e]
    ·rfl
  rw [this]
 ·rw [if_neg hn, decide_eq_false (show ¬ (0 ≤ n ∧ n ≤ 31) by omega)]
  have := and32 m 0 (by omega) (by omega)
  simp only [Nat.and_zero] at this
  have e : bitsI .and .u32 (m : Int) 0 = 0 := this
  rw [e]; rfl
end Go.Proofs.YtkjpakaidjpjgaaGreatDoor.Dfn
/- Pure laws: masks. -/
namespace Go.Proofs.YtkjpakaidjpjgaaGreatDoor.Dfn
open Go
set_option linter.unusedVariables false
set_option linter.unusedSimpArgs false
set_option maxRecDepth 100000
def ofL : List Bool → Nat
 | [] => 0
 | b :: l => (bif b then 1 else 0) + 2 * ofL l
theorem ofL_lt : ∀ l, ofL l < 2 ^ l.length
 | [] => by simp [ofL]
 | b :: l => by
  have := ofL_lt l
  simp only [ofL, List.length_cons, Nat.pow_succ]
  cases b <;> simp only [cond_true, cond_false] <;> omega
theorem ofL_test : ∀ (l : List Bool) (i : Nat), (ofL l).testBit i = l.getD i false
 | [], i => by simp [ofL]
 | b :: l, 0 => by
  simp only [ofL, Nat.testBit_zero, List.getD_cons_zero]
  cases b <;> simp only [cond_true, cond_false]
  ·exact decide_eq_false (by omega)
  ·exact decide_eq_true (by omega)
 | b :: l, i + 1 => by
  have e : ofL (b :: l) / 2 = ofL l := by
   simp only [ofL]
   cases b <;> simp only [cond_true, cond_false] <;> omega
  rw [Nat.testBit_succ, e, ofL_test l i, List.getD_cons_succ]
theorem of3_eq (l : List Bool) (hl : l.length = 32) : r03_Of (l, ()) = some ((ofL l : Int), ()) := by
 have hr : r03_Of_l0 (0, 31, l, ()) = some (.out ((ofL l : Int), ())) := by
  unfold r03_Of_l0
  refine iterL_run 32 (fun j => ((ofL (l.drop (32 - j)) : Int), 31 - (j : Int), l, ())) (fun j hj => ?_) ?_ (by omega) ?_
  ·have hd : l.drop (31 - j) = l[31 - j] :: l.drop (31 - j + 1) := List.drop_eq_getElem_cons (by omega)
   have e1 : 31 - j + 1 = 32 - j := by omega
   have e2 : 32 - (j + 1) = 31 - j := by omega
   have hlt := ofL_lt (l.drop (32 - j))
   rw [List.length_drop] at hlt
   have hle : (2 : Nat) ^ (l.length - (32 - j)) ≤ 2 ^ 31 := Nat.pow_le_pow_right (by decide) (by omega)
   have ht : (31 - (j : Int)).toNat = 31 - j := by omega
   rw [e1] at hd
   simp only [r03_Of_s0, r03_Of_s0r, Bool.cond_decide]
   rw [if_pos (by omega), if_pos (by omega), if_pos (by omega), ht, get_d _ _ _ (by omega), e2, hd]
   simp only [ofL]
   rw [wu32_id (n := 2 * _) (by omega) (by omega), wi64_id (by omega) (by omega)]
   have e3 : 31 - (j : Int) - 1 = 31 - ((j + 1 : Nat) : Int) := by omega
   rw [e3]
   cases l[31 - j]
   ·simp
   ·simp only [cond_true]
    rw [wu32_id (by omega) (by omega)]
    have : 2 * (ofL (l.drop (32 - j)) : Int) + 1 = ((1 + 2 * ofL (l.drop (32 - j)) : Nat) : Int) := by omega
    rw [this]
  ·simp only [r03_Of_s0, r03_Of_s0r, Bool.cond_decide]
   rw [if_neg (by omega)]; simp
  ·have : l.drop 32 = [] := List.drop_of_length_le (by omega)
   simp [this, ofL]
 simp only [r03_Of, r03_Of_r, hr, Option.bind_some]
def bitsTo (m : Int) (i : Nat) : List Bool := (List.range 32).map fun j => decide (j < i) && bit m j
theorem bitsTo_len (m : Int) (i : Nat) : (bitsTo m i).length = 32 := by simp [bitsTo]
theorem bitsTo_get (m : Int) (i j : Nat) (hj : j < 32) : (bitsTo m i).getD j false = (decide (j < i) && bit m j) := by
 rw [get_d _ _ _ (by rw [bitsTo_len]; exact hj)]
 simp [bitsTo]
theorem bitsTo_set (m : Int) (i : Nat) (hi : i < 32) : (bitsTo m i).set i (bit m i) = bitsTo m (i + 1) := by
 refine List.ext_getElem (by rw [List.length_set, bitsTo_len, bitsTo_len]) fun j h1 h2 => ?_
 rw [List.getElem_set]
 by_cases e : i = j
 ·subst e; simp [bitsTo]
 ·rw [if_neg e]
  have : j < i ↔ j < i + 1 := by omega
  simp [bitsTo, this]
theorem turned_l0 {m : Int} (h0 : 0 ≤ m) (h1 : m < 4294967296) (n : Int) (b : Bool) : r03_turned_l0 (m, n, b, 0, List.replicate 32 false, ()) = some (.out (n, b, bitsTo m 32, ())) := by
 unfold r03_turned_l0
 refine iterL_run 32 (fun i => (m, n, b, (i : Int), bitsTo m i, ())) (fun i hi => ?_) ?_ (by omega) ?_
 ·simp only [r03_turned_s0, r03_turned_s0r, Bool.cond_decide, has_eq h0 h1, Option.bind_some]
  rw [if_pos (by omega), if_pos (by omega), if_pos (by omega), wi64_id (by omega) (by omega), Int.toNat_natCast, decide_eq_true (show (0 : Int) ≤ i ∧ (i : Int) ≤ 31 by omega), Bool.true_and, bitsTo_set m i hi]
  rfl
 ·simp only [r03_turned_s0, r03_turned_s0r, Bool.cond_decide]
  rw [if_neg (by omega)]
 ·have : bitsTo m 0 = List.replicate 32 false := by
   refine List.ext_getElem (by rw [bitsTo_len, List.length_replicate]) fun j h1 h2 => ?_
   rw [List.getElem_replicate]
   simp [bitsTo]
  rw [this]; rfl
theorem turned_eq {m : Nat} (h1 : m < 4294967296) (n : Nat) (hn : n < 32) (b : Bool) : ∃ r : Nat, r03_turned ((m : Int), (n : Int), b, ()) = some ((r : Int), ()) ∧ r < 4294967296 ∧ ∀ i, r.testBit i = if i = n then b else m.testBit i := by
 have hl : ((bitsTo (m : Int) 32).set n b).length = 32 := by rw [List.length_set, bitsTo_len]
 refine ⟨ofL ((bitsTo (m : Int) 32).set n b), ?_, ?_, fun i => ?_⟩
 ·simp only [r03_turned, r03_turned_r, turned_l0 (show (0 : Int) ≤ m by omega) (show (m : Int) < 4294967296 by omega), Option.bind_some, Bool.cond_decide]
  have n0 : (0 : Int) ≤ n := by omega
  have n1 : (n : Int) < 32 := by omega
  simp only [ge_iff_le, n0, n1, if_true, Int.toNat_natCast, of3_eq _ hl, Option.bind_some]
 ·have := ofL_lt ((bitsTo (m : Int) 32).set n b)
  rw [hl] at this
  omega
 ·rw [ofL_test]
  by_cases hi : i < 32
  ·rw [get_d _ _ _ (by rw [hl]; exact hi), List.getElem_set]
   by_cases e : n = i
   ·subst e; simp
   ·rw [if_neg e, if_neg (fun h => e h.symm)]
    have := bitsTo_get (m : Int) 32 i hi
    rw [get_d _ _ _ (by rw [bitsTo_len]; exact hi)] at this
    rw [this, bit_test]; simp [hi]
  ·have h2 : m.testBit i = false := Nat.testBit_lt_two_pow (Nat.lt_of_lt_of_le h1 (Nat.pow_le_pow_right (n := 2) (by decide) (show 32 ≤ i by omega)))
   rw [if_neg (by omega), h2, List.getD, List.getElem?_eq_none (by rw [hl]; omega)]; rfl
theorem with_eq {m : Nat} (h1 : m < 4294967296) (n : Nat) (hn : n < 32) : ∃ r : Nat, r03_With ((m : Int), (n : Int), ()) = some ((r : Int), ()) ∧ bits_With ((m : Int), (n : Int), ()) = some ((r : Int), ()) ∧ r < 4294967296 ∧ ∀ i, r.testBit i = if i = n then true else m.testBit i := by
 obtain ⟨r, r1, r2, r3⟩ := turned_eq h1 n hn true
 refine ⟨r, ?_, ?_, r2, r3⟩
 ·simp only [r03_With, r03_With_r, r1, Option.bind_some]
 ·simp only [bits_With, bits_With_r, one_eq, Option.bind_some]
  have hp : (2 : Nat) ^ n < 2 ^ 32 := Nat.pow_lt_pow_right (by decide) hn
  rw [if_pos (by omega), Int.toNat_natCast, pow_cast, or32 m _ h1 hp]
  have : m ||| 2 ^ n = r := by
   apply Nat.eq_of_testBit_eq
   intro i
   rw [Nat.testBit_or, bit_two, r3]
   by_cases e : i = n
   ·subst e; simp
   ·rw [if_neg e]; simp [show ¬ n = i from fun h => e h.symm]
  rw [this]
theorem without_eq {m : Nat} (h1 : m < 4294967296) (n : Nat) (hn : n < 32) : ∃ r : Nat, r03_Without ((m : Int), (n : Int), ()) = some ((r : Int), ()) ∧ bits_Without ((m : Int), (n : Int), ()) = some ((r : Int), ()) ∧ r < 4294967296 ∧ ∀ i, r.testBit i = if i = n then false else m.testBit i := by
 obtain ⟨r, r1, r2, r3⟩ := turned_eq h1 n hn false
 refine ⟨r, ?_, ?_, r2, r3⟩
 ·simp only [r03_Without, r03_Without_r, r1, Option.bind_some]
 ·simp only [bits_Without, bits_Without_r, one_eq, Option.bind_some]
  have hp : (2 : Nat) ^ n < 2 ^ 32 := Nat.pow_lt_pow_right (by decide) hn
  obtain ⟨q, q1, q2, q3⟩ := andNot32 m (2 ^ n) h1 hp
  rw [if_pos (by omega), Int.toNat_natCast, pow_cast, q1]
  have : q = r := by
   apply Nat.eq_of_testBit_eq
   intro i
   rw [q3, bit_two, r3]
   by_cases e : i = n
   ·subst e; simp
   ·rw [if_neg e]; simp [show ¬ n = i from fun h => e h.symm]
  rw [this]
end Go.Proofs.YtkjpakaidjpjgaaGreatDoor.Dfn
/- Pure laws: the least of a mask; a block taken, given back. -/
namespace Go.Proofs.YtkjpakaidjpjgaaGreatDoor.Dfn
open Go
set_option linter.unusedVariables false
set_option linter.unusedSimpArgs false
set_option maxRecDepth 100000
theorem low_split {m : Nat} (hm : 0 < m) : ∃ i q, m = 2 ^ i * (2 * q + 1) := by
 induction m using Nat.strongRecOn with
 | _ m ih =>
  by_cases h : m % 2 = 1
  ·exact ⟨0, m / 2, by omega⟩
  ·obtain ⟨i, q, e⟩ := ih (m / 2) (by omega) (by omega)
   exact ⟨i + 1, q, by rw [Nat.pow_succ, Nat.mul_right_comm, ← e]; omega⟩
theorem low_test {i q : Nat} (j : Nat) : (2 ^ i * (2 * q + 1)).testBit j = if j < i then false else if j = i then true else q.testBit (j - i - 1) := by
 have h := Nat.testBit_two_pow_mul_add (2 * q + 1) (b := 0) (i := i) (Nat.pow_pos (by decide)) j
 rw [Nat.add_zero] at h
 rw [h]
 by_cases h1 : j < i
 ·rw [if_pos h1, if_pos h1]; simp
 ·rw [if_neg h1, if_neg h1]
  by_cases h2 : j = i
  ·subst h2; rw [if_pos rfl, Nat.sub_self, Nat.testBit_zero]; exact decide_eq_true (by omega)
  ·rw [if_neg h2]
   obtain ⟨k, hk⟩ : ∃ k, j - i = k + 1 := ⟨j - i - 1, by omega⟩
   rw [hk, Nat.testBit_succ, show (2 * q + 1) / 2 = q by omega, show k + 1 - 1 = k by omega]
theorem pred_test {i q : Nat} (j : Nat) : (2 ^ i * (2 * q + 1) - 1).testBit j = if j < i then true else if j = i then false else q.testBit (j - i - 1) := by
 have hp : 0 < (2 : Nat) ^ i := Nat.pow_pos (by decide)
 have e : 2 ^ i * (2 * q + 1) - 1 = 2 ^ i * (2 * q) + (2 ^ i - 1) := by rw [Nat.mul_add]; omega
 rw [e, Nat.testBit_two_pow_mul_add _ (by omega)]
 by_cases h1 : j < i
 ·rw [if_pos h1, if_pos h1, Nat.testBit_two_pow_sub_one]; exact decide_eq_true h1
 ·rw [if_neg h1, if_neg h1]
  by_cases h2 : j = i
  ·subst h2; rw [if_pos rfl, Nat.sub_self, Nat.testBit_zero]; exact decide_eq_false (by omega)
  ·rw [if_neg h2]
   obtain ⟨k, hk⟩ : ∃ k, j - i = k + 1 := ⟨j - i - 1, by omega⟩
   rw [hk, Nat.testBit_succ, show 2 * q / 2 = q by omega, show k + 1 - 1 = k by omega]
theorem and_neg {m i q : Nat} (e : m = 2 ^ i * (2 * q + 1)) (hm : m < 4294967296) : m &&& (4294967296 - m) = 2 ^ i := by
 have hp : 0 < (2 : Nat) ^ i := Nat.pow_pos (by decide)
 have h0 : 0 < m := by rw [e]; exact Nat.mul_pos hp (by omega)
 have hi : i < 32 := by
  apply Nat.lt_of_not_ge
  intro h
  have : (2 : Nat) ^ 32 ≤ 2 ^ i := Nat.pow_le_pow_right (by decide) h
  have : 2 ^ i ≤ m := by rw [e]; exact Nat.le_mul_of_pos_right _ (by omega)
  omega
 have h2 : 4294967296 - m = 2 ^ 32 - ((m - 1) + 1) := by omega
 apply Nat.eq_of_testBit_eq
 intro j
 rw [Nat.testBit_and, h2, Nat.testBit_two_pow_sub_succ (by omega), bit_two, e, low_test, pred_test]
 by_cases h1 : j < i
 ·rw [if_pos h1]; simp; omega
 ·rw [if_neg h1, if_neg h1]
  by_cases h3 : j = i
  ·subst h3; simp [hi]
  ·rw [if_neg h3, if_neg h3]
   have h4 : ¬ i = j := fun h => h3 h.symm
   cases q.testBit (j - i - 1) <;> simp [h4]
theorem tz_table : ∀ i : Nat, i < 32 → ∀ (y : Int), y = ((2 ^ i : Nat) : Int) → (bif decide (0 ≤ (shiftI false .u32 (wu32 (y * 125613361)) 27)) then
  bif decide ((shiftI false .u32 (wu32 (y * 125613361)) 27) < 32) then
   some (wi64 (([0, 1, 28, 2, 29, 14, 24, 3, 30, 22, 20, 15, 25, 17, 4, 8, 31, 27, 13, 23, 21, 19, 16, 7, 26, 12, 18, 6, 11, 5, 10, 9] : List Int).getD (shiftI false .u32 (wu32 (y * 125613361)) 27).toNat 0), ())
  else none else none) = some ((i : Int), ()) := by
 have : ((List.range 32).all fun i => decide ((bif decide (0 ≤ (shiftI false .u32 (wu32 (((2 ^ i : Nat) : Int) * 125613361)) 27)) then
  bif decide ((shiftI false .u32 (wu32 (((2 ^ i : Nat) : Int) * 125613361)) 27) < 32) then
   some (wi64 (([0, 1, 28, 2, 29, 14, 24, 3, 30, 22, 20, 15, 25, 17, 4, 8, 31, 27, 13, 23, 21, 19, 16, 7, 26, 12, 18, 6, 11, 5, 10, 9] : List Int).getD (shiftI false .u32 (wu32 (((2 ^ i : Nat) : Int) * 125613361)) 27).toNat 0), ())
  else none else none) = some ((i : Int), ()))) = true := by kernel_rfl
 rintro i hi y rfl
 exact of_decide_eq_true (List.all_eq_true.1 this i (by simpa using hi))
theorem least_eq {m i q : Nat} (e : m = 2 ^ i * (2 * q + 1)) (hm : m < 4294967296) : bits_Least ((m : Int), ()) = some ((i : Int), true, ()) := by
 have hp : 0 < (2 : Nat) ^ i := Nat.pow_pos (by decide)
 have h0 : 0 < m := by rw [e]; exact Nat.mul_pos hp (by omega)
 have hi : i < 32 := by
  apply Nat.lt_of_not_ge
  intro h
  have : (2 : Nat) ^ 32 ≤ 2 ^ i := Nat.pow_le_pow_right (by decide) h
  have : 2 ^ i ≤ m := by rw [e]; exact Nat.le_mul_of_pos_right _ (by omega)
  omega
 have hn : wu32 (0 - (m : Int)) = ((4294967296 - m : Nat) : Int) := by rw [wu32_eq]; omega
 have ha : bitsI .and .u32 (m : Int) (wu32 (0 - (m : Int))) = ((2 ^ i : Nat) : Int) := by
  rw [hn, and32 _ _ hm (by omega), and_neg e hm]
 simp only [bits_Least, bits_Least_r, math_bits_TrailingZeros32, math_bits_TrailingZeros32_r, math_bits_TrailingZeros32_rc, ibeq, Bool.cond_decide]
 rw [if_neg (by omega), if_neg (by omega), ha]
 have := tz_table i hi _ rfl
 simp only [Bool.cond_decide] at this
 rw [this]; rfl
theorem rightB_free {s : Span} (hr : rightB s = true) (h0 : 0 ≤ s.2.2.1) : s.2.2.1 < 65536 := by
 unfold rightB at hr
 split at hr
 ·simp only [decide_eq_true_eq] at hr; omega
 ·simp only [decide_eq_true_eq] at hr
  have h1 := cb_le s.2.1
  have h2 : (2 : Int) ^ (cb s.2.1).toNat ≤ 2 ^ 16 := two_pow_le (by omega)
  omega
theorem bit_low {m i q : Nat} (e : m = 2 ^ i * (2 * q + 1)) (j : Nat) : bit (m : Int) j = if j < i then false else if j = i then true else q.testBit (j - i - 1) := by
 rw [bit_test, e, low_test]
theorem take_eq {s : Span} (h0 : 0 ≤ s.2.2.1) (h1 : s.2.2.1 < 65536) :
  (s.1 = 1 ∧ s.2.2.1 ≠ 0 → ∃ (i r : Nat), span_Take (s, ()) = some ((s.1, s.2.1, (r : Int), ()), (i : Int), true, ()) ∧ r06_Take (s, ()) = some ((s.1, s.2.1, (r : Int), ()), (i : Int), true, ()) ∧ i < 16 ∧ r < 65536 ∧ bit s.2.2.1 i = true ∧ (∀ j, j < i → bit s.2.2.1 j = false) ∧ ∀ j, bit (r : Int) j = if j = i then false else bit s.2.2.1 j) ∧
  (¬ (s.1 = 1 ∧ s.2.2.1 ≠ 0) → span_Take (s, ()) = some (s, 0, false, ()) ∧ r06_Take (s, ()) = some (s, 0, false, ())) := by
 obtain ⟨m, hm⟩ := Int.eq_ofNat_of_zero_le h0
 have hm' : m < 65536 := by omega
 have hloop : ∀ (hs : s.1 = 1) (i : Nat), i < 16 → bit s.2.2.1 i = true → (∀ j, j < i → bit s.2.2.1 j = false) → ∀ r : Nat, r03_Without (s.2.2.1, (i : Int), ()) = some ((r : Int), ()) → r06_Take (s, ()) = some ((s.1, s.2.1, (r : Int), ()), (i : Int), true, ()) := by
  intro hs i hi hb hlow r hr
  have key : ∃ l, r06_Take_l0 (0, s, (0, 0, 0, ()), ()) = some l ∧ l = .ret ((i : Int), true, (s.1, s.2.1, (r : Int), ()), ()) := by
   unfold r06_Take_l0
   refine iterL_rule (fun n x => ∃ j : Nat, j ≤ i ∧ n = i - j ∧ x = ((j : Int), s, (0, 0, 0, ()), ())) ?_ _ i _ (by omega) ⟨0, by omega, rfl, rfl⟩
   rintro n x ⟨j, j1, rfl, rfl⟩
   simp only [r06_Take_s0, r06_Take_s0r, Bool.cond_decide, ibeq, has_eq h0 (show s.2.2.1 < 4294967296 by omega), Option.bind_some]
   rw [if_pos (by omega), if_pos hs, Int.toNat_natCast, decide_eq_true (show (0 : Int) ≤ j ∧ (j : Int) ≤ 31 by omega), Bool.true_and]
   by_cases e : j = i
   ·subst e
    rw [hb, cond_true, hr]
    exact .inr ⟨_, rfl, rfl⟩
   ·rw [hlow j (by omega), cond_false, wi64_id (by omega) (by omega)]
    exact .inl ⟨i - (j + 1), (((j + 1 : Nat) : Int), s, (0, 0, 0, ()), ()), by omega, rfl, j + 1, by omega, rfl, rfl⟩
  obtain ⟨l, e, rfl⟩ := key
  simp only [r06_Take, r06_Take_r, e, Option.bind_some]
 constructor
 ·rintro ⟨hs, hz⟩
  obtain ⟨i, q, e⟩ := low_split (show 0 < m by omega)
  have hb : bit s.2.2.1 i = true := by rw [hm, bit_low e]; simp
  have hlow : ∀ j, j < i → bit s.2.2.1 j = false := fun j hj => by rw [hm, bit_low e, if_pos hj]
  have hi : i < 16 := by
   apply Nat.lt_of_not_ge
   intro h
   rw [bit_lt h0 (k := 16) (by omega) h] at hb
   cases hb
  obtain ⟨r, r1, r2, r3, r4⟩ := without_eq (show m < 4294967296 by omega) i (by omega)
  refine ⟨i, r, ?_, hloop hs i hi hb hlow r (by rw [hm]; exact r1), hi, ?_, hb, hlow, fun j => ?_⟩
  ·simp only [span_Take, span_Take_r, hm, least_eq e (by omega), Option.bind_some, ibne, Bool.cond_decide, hs, r2]
   rfl
  ·have : r < 2 ^ 16 := by
    apply Nat.lt_pow_two_of_testBit
    intro j hj
    rw [r4]
    split
    ·rfl
    ·exact Nat.testBit_lt_two_pow (Nat.lt_of_lt_of_le hm' (Nat.pow_le_pow_right (n := 2) (by decide) hj))
   exact this
  ·rw [bit_test, r4, hm, bit_test]
 ·intro hn
  constructor
  ·simp only [span_Take, span_Take_r]
   by_cases hz : s.2.2.1 = 0
   ·rw [hz]; rfl
   ·have hs : s.1 ≠ 1 := fun h => hn ⟨h, hz⟩
    obtain ⟨i, q, e⟩ := low_split (show 0 < m by omega)
    rw [hm, least_eq e (by omega)]
    simp only [Option.bind_some, ibne, Bool.cond_decide]
    rw [if_pos hs]; rfl
  ·have key : ∃ l, r06_Take_l0 (0, s, (0, 0, 0, ()), ()) = some l ∧ l = .out (s, (0, 0, 0, ()), ()) := by
    unfold r06_Take_l0
    refine iterL_rule (fun n x => ∃ j : Nat, j ≤ 16 ∧ n = 16 - j ∧ x = ((j : Int), s, (0, 0, 0, ()), ())) ?_ _ 16 _ (by omega) ⟨0, by omega, rfl, rfl⟩
    rintro n x ⟨j, j1, rfl, rfl⟩
    simp only [r06_Take_s0, r06_Take_s0r, Bool.cond_decide, ibeq, has_eq h0 (show s.2.2.1 < 4294967296 by omega), Option.bind_some]
    by_cases hj : (j : Int) < 16
    ·rw [if_pos hj]
     by_cases hs : s.1 = 1
     ·have hz : s.2.2.1 = 0 := Classical.byContradiction fun h => hn ⟨hs, h⟩
      have hb : bit s.2.2.1 j = false := by rw [hz]; simp [bit]
      rw [if_pos hs, Int.toNat_natCast, hb, Bool.and_false, cond_false, wi64_id (by omega) (by omega)]
      exact .inl ⟨16 - (j + 1), (((j + 1 : Nat) : Int), s, (0, 0, 0, ()), ()), by omega, rfl, j + 1, by omega, rfl, rfl⟩
     ·rw [if_neg hs]; exact .inr ⟨_, rfl, rfl⟩
    ·rw [if_neg hj]; exact .inr ⟨_, rfl, rfl⟩
   obtain ⟨l, e, rfl⟩ := key
   simp only [r06_Take, r06_Take_r, e, Option.bind_some]
end Go.Proofs.YtkjpakaidjpjgaaGreatDoor.Dfn
/- Pure laws: a block given back; how many are free. -/
namespace Go.Proofs.YtkjpakaidjpjgaaGreatDoor.Dfn
open Go
set_option linter.unusedVariables false
set_option linter.unusedSimpArgs false
set_option maxRecDepth 100000
theorem bit_whole (k i : Nat) : bit (2 ^ k - 1 : Int) i = decide (i < k) := by
 have hp0 : 0 < (2 : Nat) ^ k := Nat.pow_pos (by decide)
 have e2 : ((2 : Int) ^ k - 1) = ((2 ^ k - 1 : Nat) : Int) := by
  rw [Int.ofNat_sub hp0, pow_cast]; rfl
 rw [e2, bit_test, Nat.testBit_two_pow_sub_one]
def giveP (s : Span) (i : Int) : Prop := (s.1 = 1 ∨ s.1 = 2) ∧ 0 ≤ i ∧ i < cb s.2.1 ∧ bit s.2.2.1 i.toNat = false
theorem give_eq {s : Span} (h0 : 0 ≤ s.2.2.1) (h1 : s.2.2.1 < 65536) (i : Int) :
  (giveP s i → ∃ r : Nat, span_Give (s, i, ()) = some ((s.1, s.2.1, (r : Int), ()), true, ()) ∧ r06_Give (s, i, ()) = some ((s.1, s.2.1, (r : Int), ()), true, ()) ∧ r < 65536 ∧ ∀ j, bit (r : Int) j = if j = i.toNat then true else bit s.2.2.1 j) ∧
  (¬ giveP s i → span_Give (s, i, ()) = some (s, false, ()) ∧ r06_Give (s, i, ()) = some (s, false, ())) := by
 have hc := cb_le s.2.1
 have hk : (cb s.2.1).toNat ≤ 16 := by omega
 have hw0 : (0 : Int) ≤ 2 ^ (cb s.2.1).toNat - 1 := by
  have : (0 : Int) < 2 ^ (cb s.2.1).toNat := Int.pow_pos (by decide)
  omega
 have hw1 : (2 : Int) ^ (cb s.2.1).toNat - 1 < 4294967296 := by
  have : (2 : Int) ^ (cb s.2.1).toNat ≤ 2 ^ 16 := two_pow_le hk
  omega
 simp only [span_Give, span_Give_r, r06_Give, r06_Give_r, span_inUse_eq, inUse_eq, whole_eq, blocks4_eq, hasP_eq hw0 hw1, hasP_eq h0 (show s.2.2.1 < 4294967296 by omega), has_eq h0 (show s.2.2.1 < 4294967296 by omega), Option.bind_some, Bool.cond_decide, condn]
 constructor
 ·rintro ⟨hu, i0, i1, hb⟩
  obtain ⟨n, rfl⟩ := Int.eq_ofNat_of_zero_le i0
  obtain ⟨m, hm⟩ := Int.eq_ofNat_of_zero_le h0
  obtain ⟨r, r1, r2, r3, r4⟩ := with_eq (show m < 4294967296 by omega) n (by omega)
  have hwb : bit (2 ^ (cb s.2.1).toNat - 1 : Int) n = true := by rw [bit_whole]; exact decide_eq_true (by omega)
  simp only [Int.toNat_natCast] at hb ⊢
  refine ⟨r, ?_, ?_, ?_, fun j => ?_⟩
  ·rw [if_pos hu, decide_eq_true (show (0 : Int) ≤ n ∧ (n : Int) ≤ 31 by omega), hwb, hb, hm, r2]; rfl
  ·rw [if_pos hu, if_neg (by omega), if_neg (by omega), hb, Bool.and_false, cond_false, hm, r1]; rfl
  ·have : r < 2 ^ 16 := by
    apply Nat.lt_pow_two_of_testBit
    intro j hj
    rw [r4, if_neg (by omega)]
    exact Nat.testBit_lt_two_pow (Nat.lt_of_lt_of_le (show m < 2 ^ 16 by omega) (Nat.pow_le_pow_right (n := 2) (by decide) hj))
   exact this
  ·rw [bit_test, r4, hm, bit_test]
 ·intro hn
  by_cases hu : s.1 = 1 ∨ s.1 = 2
  ·rw [if_pos hu, if_pos hu]
   by_cases i0 : i < 0
   ·rw [decide_eq_false (show ¬ (0 ≤ i ∧ i ≤ 31) by omega), if_pos i0]
    exact ⟨rfl, rfl⟩
   by_cases i1 : i ≥ cb s.2.1
   ·have hwb : (decide (0 ≤ i ∧ i ≤ 31) && bit (2 ^ (cb s.2.1).toNat - 1 : Int) i.toNat) = false := by
     rw [bit_whole, decide_eq_false (show ¬ i.toNat < (cb s.2.1).toNat by omega), Bool.and_false]
    rw [hwb, if_neg i0, if_pos i1]
    exact ⟨rfl, rfl⟩
   ·have hwb : bit (2 ^ (cb s.2.1).toNat - 1 : Int) i.toNat = true := by rw [bit_whole]; exact decide_eq_true (by omega)
    have hb : bit s.2.2.1 i.toNat = true := by
     cases hb : bit s.2.2.1 i.toNat
     ·exact absurd ⟨hu, by omega, by omega, hb⟩ hn
     ·rfl
    rw [if_neg i0, if_neg i1, hwb, hb, decide_eq_true (show 0 ≤ i ∧ i ≤ 31 by omega)]
    exact ⟨rfl, rfl⟩
  ·rw [if_neg hu, if_neg hu]
   exact ⟨rfl, rfl⟩
end Go.Proofs.YtkjpakaidjpjgaaGreatDoor.Dfn
/- Pure laws: how many numbers a mask has. -/
namespace Go.Proofs.YtkjpakaidjpjgaaGreatDoor.Dfn
open Go
set_option linter.unusedVariables false
set_option linter.unusedSimpArgs false
set_option maxRecDepth 100000
def pcn : Nat → Nat → Nat
 | 0, _ => 0
 | n + 1, m => m % 2 + pcn n (m / 2)
theorem pcn_zero : ∀ n, pcn n 0 = 0
 | 0 => rfl
 | n + 1 => by simp [pcn, pcn_zero n]
theorem pcn_add : ∀ (a b m : Nat), pcn (a + b) m = pcn a m + pcn b (m / 2 ^ a)
 | 0, b, m => by simp [pcn]
 | a + 1, b, m => by
  rw [show a + 1 + b = (a + b) + 1 by omega]
  simp only [pcn]
  rw [pcn_add a b (m / 2), Nat.div_div_eq_div_mul, ← Nat.pow_succ', Nat.add_assoc]
theorem pcn_le : ∀ n m, pcn n m ≤ n
 | 0, m => Nat.le_refl _
 | n + 1, m => by
  have := pcn_le n (m / 2)
  simp only [pcn]; omega
theorem pcn_bit (m i : Nat) : pcn (i + 1) m = pcn i m + (bif bit (m : Int) i then 1 else 0) := by
 rw [pcn_add i 1 m, bit_test, Nat.testBit_eq_decide_div_mod_eq]
 simp only [pcn]
 by_cases h : m / 2 ^ i % 2 = 1
 ·rw [decide_eq_true h, cond_true]; omega
 ·rw [decide_eq_false h, cond_false]; omega
theorem count3_eq {m : Nat} (hm : m < 4294967296) : r03_Count ((m : Int), ()) = some ((pcn 32 m : Int), ()) := by
 have hr : r03_Count_l0 ((m : Int), 0, 0, ()) = some (.out ((pcn 32 m : Int), ())) := by
  unfold r03_Count_l0
  refine iterL_run 32 (fun i => ((m : Int), (pcn i m : Int), (i : Int), ())) (fun i hi => ?_) ?_ (by omega) rfl
  ·have := pcn_le i m
   simp only [r03_Count_s0, r03_Count_s0r, Bool.cond_decide, has_eq (show (0 : Int) ≤ m by omega) (show (m : Int) < 4294967296 by omega), Option.bind_some]
   rw [if_pos (by omega), Int.toNat_natCast, decide_eq_true (show (0 : Int) ≤ i ∧ (i : Int) ≤ 31 by omega), Bool.true_and, pcn_bit, wi64_id (n := (pcn i m : Int) + 1) (by omega) (by omega), wi64_id (by omega) (by omega)]
   cases bit (m : Int) i
   ·rfl
   ·rfl
  ·simp only [r03_Count_s0, r03_Count_s0r, Bool.cond_decide]
   rw [if_neg (by omega)]
 simp only [r03_Count, r03_Count_r, hr, Option.bind_some]
end Go.Proofs.YtkjpakaidjpjgaaGreatDoor.Dfn
/- Pure laws: the program's look at a heap's form. -/
namespace Go.Proofs.YtkjpakaidjpjgaaGreatDoor.Dfn
open Go
set_option linter.unusedVariables false
set_option linter.unusedSimpArgs false
set_option maxRecDepth 100000
def us1 (s : Span) : Int := if s.1 = 0 then 0 else (cb s.2.1 - pcn 32 s.2.2.1.toNat) * cw s.2.1
def usN (h : Heap) : Nat → Int
 | 0 => 0
 | n + 1 => usN h n + us1 (h.2.1.getD n sz)
def FreeP (h : Heap) : Prop := ∀ s : Span, s ∈ h.2.1 → 0 ≤ s.2.2.1
end Go.Proofs.YtkjpakaidjpjgaaGreatDoor.Dfn
/- Pure laws: a page opened, closed; a block freed, an object laid. -/
namespace Go.Proofs.YtkjpakaidjpjgaaGreatDoor.Dfn
open Go
set_option linter.unusedVariables false
set_option linter.unusedSimpArgs false
set_option maxRecDepth 100000
theorem with7_l0 (h : Heap) (hl : h.2.1.length ≤ 16) (p : Nat) (hp : p < h.2.1.length) (s : Span) :
  r07_with_l0 (p, 0, h, s, (false, ()), (h.2.2.1, ()), h.1, [], ()) = some (.out ((false, ()), (h.2.2.1, ()), h.1, h.2.1.set p s, ())) := by
 unfold r07_with_l0
 refine iterL_run h.2.1.length (fun i => ((p : Int), (i : Int), h, s, (false, ()), (h.2.2.1, ()), h.1, (h.2.1.set p s).take i, ())) (fun i hi => ?_) ?_ (by omega) rfl
 ·simp only [r07_with_s0, r07_with_s0r, Bool.cond_decide, ibeq]
  have hi' : i < (h.2.1.set p s).length := by rw [List.length_set]; exact hi
  have ht : (h.2.1.set p s).take (i + 1) = (h.2.1.set p s).take i ++ [(h.2.1.set p s)[i]] := (List.take_append_getElem hi').symm
  have hlen : ((h.2.1.set p s).take i).length = i := by rw [List.length_take]; omega
  by_cases e : p = i
  ·rw [if_pos (by omega), if_pos (by omega), if_pos (by omega), if_pos (show (i : Int) = p by omega), if_pos (by omega), wi64_id (by omega) (by omega), ht, List.getElem_set, if_pos e]; rfl
  ·rw [if_pos (by omega), if_pos (by omega), if_pos (by omega), if_neg (show ¬ (i : Int) = p by omega), if_pos (by omega), wi64_id (by omega) (by omega), ht, List.getElem_set, if_neg e, Int.toNat_natCast, get_d _ _ _ hi]; rfl
 ·simp only [r07_with_s0, r07_with_s0r, Bool.cond_decide]
  rw [if_neg (by omega), List.take_of_length_le (by rw [List.length_set]; exact Nat.le_refl _)]
theorem with7_eq {h : Heap} (f : FormP h) (p : Nat) (hp : p < h.2.1.length) (s : Span) : r07_with (h, (p : Int), s, ()) = some ((h.1, h.2.1.set p s, h.2.2), ()) := by
 have hn := f.n16
 have hl := f.len
 simp only [r07_with, r07_with_r, Bool.cond_decide]
 rw [if_pos (by omega), with7_l0 h hn p hp]
 rfl
theorem whole3_eq {c : Int} (h0 : 0 ≤ c) (h3 : c ≤ 3) : r03_Whole (cb c, ()) = some (2 ^ (cb c).toNat - 1, ()) := by
 obtain rfl | rfl | rfl | rfl : c = 0 ∨ c = 1 ∨ c = 2 ∨ c = 3 := by omega
 all_goals kernel_rfl
def spanAt (h : Heap) (p : Int) : Span := h.2.1.getD p.toNat sz
def inP (h : Heap) (p : Int) : Prop := 0 ≤ p ∧ p < h.2.1.length
theorem inP.nat {h : Heap} {p : Int} (i : inP h p) : ∃ n : Nat, p = n ∧ n < h.2.1.length ∧ spanAt h p = h.2.1.getD n sz := by
 obtain ⟨i0, i1⟩ := i
 exact ⟨p.toNat, by omega, by omega, rfl⟩
theorem inP.mem {h : Heap} {p : Int} (i : inP h p) : spanAt h p ∈ h.2.1 := by
 obtain ⟨n, rfl, hn, e⟩ := i.nat
 rw [e, get_d _ _ _ hn]; exact List.getElem_mem hn
def setSp (h : Heap) (p : Int) (s : Span) : Heap := (h.1, h.2.1.set p.toNat s, h.2.2)
theorem page_in {h : Heap} {p : Int} (i : inP h p) : heap_page (h, p, ()) = some (spanAt h p, true, ()) := by
 rw [page_eq, if_pos (show 0 ≤ p ∧ p < (h.2.1.length : Int) from i)]; rfl
theorem with7_in {h : Heap} (f : FormP h) {p : Int} (i : inP h p) (s : Span) : r07_with (h, p, s, ()) = some (setSp h p s, ()) := by
 obtain ⟨n, rfl, hn, e⟩ := i.nat
 rw [with7_eq f n hn]; rfl
theorem clone8_eq {l : List Int} (h : l.length ≤ 512) : slices_Clone_uint64 (l, ()) = some (l, ()) := by
 simp only [slices_Clone_uint64, cloneF, Bool.cond_decide]
 rw [if_pos (by omega)]
theorem clone24_eq {l : List Span} (h : l.length ≤ 512) : slices_Clone_api_Span (l, ()) = some (l, ()) := by
 simp only [slices_Clone_api_Span, cloneF, Bool.cond_decide]
 rw [if_pos (by omega)]
def xr (m : Int) (i : Nat) : Int := ((m.toNat ^^^ 2 ^ i : Nat) : Int)
theorem xr_nat (m i : Nat) : xr (m : Int) i = ((m ^^^ 2 ^ i : Nat) : Int) := rfl
theorem xr_nonneg (m : Int) (i : Nat) : 0 ≤ xr m i := Int.natCast_nonneg _
theorem xr_bit {m : Int} (h0 : 0 ≤ m) (i j : Nat) : bit (xr m i) j = if j = i then !bit m j else bit m j := by
 obtain ⟨m, rfl⟩ := Int.eq_ofNat_of_zero_le h0
 rw [xr_nat, bit_test, bit_test, Nat.testBit_xor, bit_two]
 by_cases e : j = i
 ·subst e; simp
 ·rw [if_neg e, decide_eq_false (fun h => e h.symm), Bool.xor_false]
theorem xr_lt {m : Int} (h0 : 0 ≤ m) {i k : Nat} (hm : m < 2 ^ k) (hi : i < k) : xr m i < 2 ^ k := by
 obtain ⟨m, rfl⟩ := Int.eq_ofNat_of_zero_le h0
 rw [xr_nat]
 rw [pow_cast] at hm ⊢
 have h1 : m < 2 ^ k := Int.ofNat_lt.1 hm
 exact Int.ofNat_lt.2 (Nat.xor_lt_two_pow h1 (Nat.pow_lt_pow_right (by decide) hi))
theorem bit_ext {a b : Int} (ha : 0 ≤ a) (hb : 0 ≤ b) (h : ∀ j, bit a j = bit b j) : a = b := by
 obtain ⟨a, rfl⟩ := Int.eq_ofNat_of_zero_le ha
 obtain ⟨b, rfl⟩ := Int.eq_ofNat_of_zero_le hb
 have : a = b := Nat.eq_of_testBit_eq fun j => by rw [← bit_test, ← bit_test, h]
 rw [this]
theorem pcn_xr (m i : Nat) : ∀ n, (n ≤ i → pcn n (m ^^^ 2 ^ i) = pcn n m) ∧ (i < n → (bit (m : Int) i = true → pcn n (m ^^^ 2 ^ i) + 1 = pcn n m) ∧ (bit (m : Int) i = false → pcn n (m ^^^ 2 ^ i) = pcn n m + 1)) := by
 intro n
 induction n with
 | zero => exact ⟨fun _ => rfl, fun h => by omega⟩
 | succ n ih =>
  have hb := xr_bit (show (0 : Int) ≤ m by omega) i n
  rw [xr_nat] at hb
  refine ⟨fun h => ?_, fun h => ?_⟩
  ·rw [pcn_bit, pcn_bit, hb, if_neg (by omega), ih.1 (by omega)]
  ·by_cases e : n = i
   ·subst e
    rw [pcn_bit, pcn_bit, hb, if_pos rfl, ih.1 (Nat.le_refl _)]
    constructor
    ·intro h; rw [h]; rfl
    ·intro h; rw [h]; rfl
   ·rw [pcn_bit, pcn_bit, hb, if_neg e]
    obtain ⟨h1, h2⟩ := ih.2 (by omega)
    constructor
    ·intro h; rw [← h1 h]; omega
    ·intro h; rw [h2 h]; omega
theorem pcn_full : ∀ k, pcn k (2 ^ k - 1) = k
 | 0 => rfl
 | k + 1 => by
  have hp : 0 < 2 ^ k := Nat.pow_pos (by decide)
  have e1 : (2 ^ (k + 1) - 1) % 2 = 1 := by rw [Nat.pow_succ]; omega
  have e2 : (2 ^ (k + 1) - 1) / 2 = 2 ^ k - 1 := by rw [Nat.pow_succ]; omega
  rw [pcn, e1, e2, pcn_full k]; omega
theorem pcn_full' : ∀ k m, m < 2 ^ k → pcn k m = k → m = 2 ^ k - 1
 | 0, m, h, _ => by simp at h; omega
 | k + 1, m, h, e => by
  have hp : 0 < 2 ^ k := Nat.pow_pos (by decide)
  have hl := pcn_le k (m / 2)
  rw [pcn] at e
  rw [Nat.pow_succ] at h ⊢
  have := pcn_full' k (m / 2) (by omega) (by omega)
  omega
theorem pcn_top {k m : Nat} (hk : k ≤ 32) (h : m < 2 ^ k) : pcn 32 m = pcn k m := by
 have := pcn_add k (32 - k) m
 rw [show k + (32 - k) = 32 by omega, Nat.div_eq_of_lt h, pcn_zero] at this
 omega
theorem pcn_all {k m : Nat} (hk : k ≤ 32) (h : m < 2 ^ k) : pcn 32 m = k ↔ m = 2 ^ k - 1 := by
 rw [pcn_top hk h]
 exact ⟨pcn_full' k m h, fun e => by rw [e, pcn_full]⟩
theorem span_New_in {c : Int} (h0 : 0 ≤ c) (h3 : c ≤ 3) : span_New (c, ()) = some ((1, c, 2 ^ (cb c).toNat - 1, ()), true, ()) := by
 have hp : ¬ cb c = 0 := by rcases class4 h0 h3 with ⟨_, e⟩ | ⟨_, e⟩ | ⟨_, e⟩ | ⟨_, e⟩ <;> omega
 simp only [span_New, span_New_r, class_Blocks_eq, whole_eq, Option.bind_some, Bool.cond_decide, ibeq]
 rw [if_neg hp]
def openP (h : Heap) (p c : Int) : Prop := inP h p ∧ 0 ≤ c ∧ c ≤ 3 ∧ (spanAt h p).1 = 0
def opened (h : Heap) (p c : Int) : Heap := setSp h p (1, c, 2 ^ (cb c).toNat - 1, ())
theorem open_in {h : Heap} (f : FormP h) {p c : Int} (i : openP h p c) : heap_Open (h, p, c, ()) = some (opened h p c, true, ()) := by
 obtain ⟨ip, c0, c3, hs⟩ := i
 have hn := f.n16
 have hl := f.len
 have i0 := ip.1
 have i1 := ip.2
 simp only [heap_Open, heap_Open_r, page_in ip, span_New_in c0 c3, clone8_eq (show h.1.length ≤ 512 by omega), clone24_eq (show h.2.1.length ≤ 512 by omega), Option.bind_some, Bool.cond_decide, ibeq, condn, hs, cond_true]
 rw [if_pos trivial, if_pos i0, if_pos i1]; rfl
theorem open7_in {h : Heap} (f : FormP h) {p c : Int} (i : openP h p c) : r07_Open (h, p, c, ()) = some (opened h p c, true, ()) := by
 obtain ⟨ip, c0, c3, hs⟩ := i
 have i0 := ip.1
 have i1 := ip.2
 simp only [r07_Open, r07_Open_r, Bool.cond_decide, ibne]
 simp only [show ((0 : Int), (0 : Int), (0 : Int), ()) = sz from rfl]
 change (if p < 0 then _ else if p ≥ (h.2.1.length : Int) then _ else if c < 0 then _ else if c > 3 then _ else if 0 ≤ p then if p < (h.2.1.length : Int) then if ¬ (spanAt h p).1 = 0 then _ else _ else _ else _) = _
 rw [if_neg (by omega), if_neg (by omega), if_neg (by omega), if_neg (by omega), if_pos (by omega), if_pos (by omega), if_neg (by simpa using hs)]
 simp only [blocks4_eq, Option.bind_some, whole3_eq c0 c3, with7_in f ip]
 rfl
theorem open7_out {h : Heap} {p c : Int} (i : ¬ openP h p c) : r07_Open (h, p, c, ()) = some (h, false, ()) := by
 simp only [r07_Open, r07_Open_r, Bool.cond_decide, ibne]
 simp only [show ((0 : Int), (0 : Int), (0 : Int), ()) = sz from rfl]
 change (if p < 0 then _ else if p ≥ (h.2.1.length : Int) then _ else if c < 0 then _ else if c > 3 then _ else if 0 ≤ p then if p < (h.2.1.length : Int) then if ¬ (spanAt h p).1 = 0 then _ else _ else _ else _) = _
 by_cases h1 : p < 0
 ·rw [if_pos h1]
 by_cases h2 : p ≥ (h.2.1.length : Int)
 ·rw [if_neg h1, if_pos h2]
 by_cases h3 : c < 0
 ·rw [if_neg h1, if_neg h2, if_pos h3]
 by_cases h4 : c > 3
 ·rw [if_neg h1, if_neg h2, if_neg h3, if_pos h4]
 have hs : ¬ (spanAt h p).1 = 0 := fun e => i ⟨⟨by omega, by omega⟩, by omega, by omega, e⟩
 rw [if_neg h1, if_neg h2, if_neg h3, if_neg h4, if_pos (by omega), if_pos (by omega), if_pos hs]
theorem right_use {s : Span} (hr : rightB s = true) (hu : s.1 ≠ 0) : (s.1 = 1 ∨ s.1 = 2) ∧ 0 ≤ s.2.1 ∧ s.2.1 ≤ 3 ∧ s.2.2.1 < 2 ^ (cb s.2.1).toNat := by
 simpa only [rightB, if_neg hu, decide_eq_true_eq] using hr
theorem count6_eq {s : Span} (h0 : 0 ≤ s.2.2.1) (h1 : s.2.2.1 < 65536) : r06_Free (s, ()) = some ((pcn 32 s.2.2.1.toNat : Int), ()) := by
 obtain ⟨m, hm⟩ := Int.eq_ofNat_of_zero_le h0
 simp only [r06_Free, r06_Free_r, hm, count3_eq (show m < 4294967296 by omega), Option.bind_some, Int.toNat_natCast]
theorem setSp_form {h : Heap} (f : FormP h) (p : Int) {s : Span} (hr : rightB s = true) : FormP (setSp h p s) where
 n1 := by show 1 ≤ (h.2.1.set _ _).length; rw [List.length_set]; exact f.n1
 n16 := by show (h.2.1.set _ _).length ≤ _; rw [List.length_set]; exact f.n16
 len := by show h.1.length = 32 * (h.2.1.set _ _).length; rw [List.length_set]; exact f.len
 right := fun x hx => by
  rcases List.mem_or_eq_of_mem_set hx with h | rfl
  ·exact f.right _ h
  ·exact hr
 word := f.word
theorem setSp_free {h : Heap} (hf : FreeP h) (p : Int) {s : Span} (h0 : 0 ≤ s.2.2.1) : FreeP (setSp h p s) := fun x hx => by
 rcases List.mem_or_eq_of_mem_set hx with h | rfl
 ·exact hf _ h
 ·exact h0
end Go.Proofs.YtkjpakaidjpjgaaGreatDoor.Dfn
/- Pure laws: a block freed, an object laid. -/
namespace Go.Proofs.YtkjpakaidjpjgaaGreatDoor.Dfn
open Go
set_option linter.unusedVariables false
set_option linter.unusedSimpArgs false
set_option maxRecDepth 100000
def zer (ws : List Int) (a k : Nat) : List Int := segSet ws a (List.replicate k 0)
theorem zer_len {ws : List Int} {a k : Nat} (h : a + k ≤ ws.length) : (zer ws a k).length = ws.length := seg_len (by simpa using h)
theorem zer_get {ws : List Int} {a k : Nat} (h : a + k ≤ ws.length) (j : Nat) : (zer ws a k)[j]? = if a ≤ j ∧ j < a + k then some 0 else ws[j]? := by
 rw [zer, seg_get (by simpa using h), List.length_replicate]
 by_cases e : a ≤ j ∧ j < a + k
 ·rw [if_pos e, if_pos e, List.getElem?_replicate, if_pos (by omega)]
 ·rw [if_neg e, if_neg e]
theorem zer_zero (ws : List Int) (a : Nat) : zer ws a 0 = ws := seg_nil
theorem zer_succ {ws : List Int} {a k : Nat} (h : a + k < ws.length) : (zer ws a k).set (a + k) 0 = zer ws a (k + 1) := by
 apply List.ext_getElem?
 intro j
 rw [List.getElem?_set, zer_len (by omega), zer_get (by omega), zer_get (by omega)]
 by_cases e : a + k = j
 ·rw [if_pos e, if_pos h, if_pos (by omega)]
 ·rw [if_neg e]
  by_cases e2 : a ≤ j ∧ j < a + k
  ·rw [if_pos e2, if_pos (by omega)]
  ·rw [if_neg e2, if_neg (by omega)]
theorem take_in {s : Span} (h0 : 0 ≤ s.2.2.1) (h1 : s.2.2.1 < 65536) (hs : s.1 = 1) (hz : s.2.2.1 ≠ 0) : ∃ i : Nat, i < 16 ∧ bit s.2.2.1 i = true ∧ (∀ j, j < i → bit s.2.2.1 j = false) ∧
  span_Take (s, ()) = some ((s.1, s.2.1, xr s.2.2.1 i, ()), (i : Int), true, ()) ∧ r06_Take (s, ()) = some ((s.1, s.2.1, xr s.2.2.1 i, ()), (i : Int), true, ()) := by
 obtain ⟨i, r, e1, e2, hi, hr, hb, hl, ht⟩ := (take_eq h0 h1).1 ⟨hs, hz⟩
 have : (r : Int) = xr s.2.2.1 i := bit_ext (Int.natCast_nonneg _) (xr_nonneg _ _) fun j => by
  rw [ht, xr_bit h0]
  by_cases e : j = i
  ·subst e; rw [if_pos rfl, if_pos rfl, hb]; rfl
  ·rw [if_neg e, if_neg e]
 rw [this] at e1 e2
 exact ⟨i, hi, hb, hl, e1, e2⟩
theorem give_in {s : Span} (h0 : 0 ≤ s.2.2.1) (h1 : s.2.2.1 < 65536) {i : Int} (g : giveP s i) :
  span_Give (s, i, ()) = some ((s.1, s.2.1, xr s.2.2.1 i.toNat, ()), true, ()) ∧ r06_Give (s, i, ()) = some ((s.1, s.2.1, xr s.2.2.1 i.toNat, ()), true, ()) := by
 obtain ⟨r, e1, e2, hr, ht⟩ := (give_eq h0 h1 i).1 g
 have : (r : Int) = xr s.2.2.1 i.toNat := bit_ext (Int.natCast_nonneg _) (xr_nonneg _ _) fun j => by
  rw [ht, xr_bit h0]
  by_cases e : j = i.toNat
  ·subst e; rw [if_pos rfl, if_pos rfl, g.2.2.2]; rfl
  ·rw [if_neg e, if_neg e]
 rw [this] at e1 e2
 exact ⟨e1, e2⟩
theorem give_out {s : Span} (h0 : 0 ≤ s.2.2.1) (h1 : s.2.2.1 < 65536) {i : Int} (g : ¬ giveP s i) : span_Give (s, i, ()) = some (s, false, ()) ∧ r06_Give (s, i, ()) = some (s, false, ()) := (give_eq h0 h1 i).2 g
def blkI (h : Heap) (a : Int) : Int := a % 32 / cw (spanOf h a).2.1
def freeP (h : Heap) (a : Int) : Prop := fndB h a = true ∧ giveP (spanOf h a) (blkI h a)
def freed (h : Heap) (a : Int) : Heap :=
 (zer h.1 a.toNat (cw (spanOf h a).2.1).toNat, h.2.1.set (a / 32).toNat ((spanOf h a).1, (spanOf h a).2.1, xr (spanOf h a).2.2.1 (blkI h a).toNat, ()), h.2.2)
theorem fnd_page {h : Heap} {a : Int} (hb : fndB h a = true) : inP h (a / 32) ∧ spanAt h (a / 32) = spanOf h a := by
 have := fndB_rng hb
 exact ⟨⟨by omega, by omega⟩, rfl⟩
theorem fnd_in {h : Heap} {a : Int} (hb : fndB h a = true) : fnd h a = (a / 32, blkI h a, true, ()) := by rw [fnd, if_pos hb]; rfl
theorem fnd_room {h : Heap} (f : FormP h) {a : Int} (hb : fndB h a = true) : (0 ≤ (spanOf h a).2.1 ∧ (spanOf h a).2.1 ≤ 3) ∧ 0 ≤ a ∧ a + cw (spanOf h a).2.1 ≤ h.1.length := by
 have h1 := fndB_rng hb
 have hl := f.len
 have hb' := hb
 simp only [fndB, decide_eq_true_eq] at hb'
 have hc := f.spanAt h1.1 h1.2 hb'.2.2.1
 refine ⟨hc, h1.1, ?_⟩
 rcases class4 hc.1 hc.2 with ⟨e, _⟩ | ⟨e, _⟩ | ⟨e, _⟩ | ⟨e, _⟩ <;> rw [e] at hb' ⊢ <;> omega
def hword (c : Int) (col : Bool) (n : Int) : Int := 128 + 16 * c + n + (bif col then 64 else 0)
theorem put_used {c n : Int} (c0 : 0 ≤ c) (c3 : c ≤ 3) (n0 : 0 ≤ n) (n1 : n < cw c) (col : Bool) : header_Put ((true, col, c, n, ()), ()) = some (hword c col n, true, ()) ∧ r02_Put ((true, col, c, n, ()), ()) = some (hword c col n, ()) := by
 have : ([true, false].all fun col => (List.range 4).all fun c => (List.range 16).all fun n => !decide ((n : Int) < cw c) ||
  (decide (header_Put ((true, col, (c : Int), (n : Int), ()), ()) = some (hword c col n, true, ())) && decide (r02_Put ((true, col, (c : Int), (n : Int), ()), ()) = some (hword c col n, ())))) = true := by kernel_rfl
 obtain ⟨c, rfl⟩ := Int.eq_ofNat_of_zero_le c0
 obtain ⟨n, rfl⟩ := Int.eq_ofNat_of_zero_le n0
 have hc := cw_le c
 simp only [List.all_eq_true] at this
 have h := this col (by cases col <;> simp) c (by simp; omega) n (by simp; omega)
 rw [decide_eq_true n1, Bool.not_true, Bool.false_or, Bool.and_eq_true] at h
 exact ⟨of_decide_eq_true h.1, of_decide_eq_true h.2⟩
def layP (h : Heap) (p n : Int) : Prop := inP h p ∧ (spanAt h p).1 = 1 ∧ (spanAt h p).2.2.1 ≠ 0 ∧ 0 ≤ n ∧ n < cw (spanAt h p).2.1
def lowP (m : Int) (i : Nat) : Prop := bit m i = true ∧ ∀ j, j < i → bit m j = false
def layA (h : Heap) (p : Int) (i : Nat) : Int := 32 * p + i * cw (spanAt h p).2.1
def laid (h : Heap) (p : Int) (i : Nat) (n : Int) : Heap :=
 ((zer h.1 (layA h p i).toNat (cw (spanAt h p).2.1).toNat).set (layA h p i).toNat (hword (spanAt h p).2.1 h.2.2.1 n), h.2.1.set p.toNat ((spanAt h p).1, (spanAt h p).2.1, xr (spanAt h p).2.2.1 i, ()), h.2.2)
theorem bit_room {m : Int} (h0 : 0 ≤ m) {k i : Nat} (h : m < 2 ^ k) (hb : bit m i = true) : i < k := by
 apply Nat.lt_of_not_ge
 intro hk
 rw [bit_lt h0 h hk] at hb; cases hb
theorem lay_room {h : Heap} (f : FormP h) (hf : FreeP h) {p : Int} (ip : inP h p) (hs : (spanAt h p).1 ≠ 0) {i : Nat} (hb : (i : Int) < cb (spanAt h p).2.1) :
  (0 ≤ (spanAt h p).2.1 ∧ (spanAt h p).2.1 ≤ 3) ∧ 0 ≤ (i : Int) * cw (spanAt h p).2.1 ∧ (i : Int) * cw (spanAt h p).2.1 ≤ 32 - cw (spanAt h p).2.1 := by
 obtain ⟨hu, c0, c3, hlt⟩ := right_use (f.right _ ip.mem) hs
 refine ⟨⟨c0, c3⟩, ?_⟩
 rcases class4 c0 c3 with ⟨e, e'⟩ | ⟨e, e'⟩ | ⟨e, e'⟩ | ⟨e, e'⟩ <;> rw [e'] at hb <;> rw [e] <;> omega
theorem lay_low {h : Heap} (f : FormP h) (hf : FreeP h) {p : Int} (ip : inP h p) (hs : (spanAt h p).1 ≠ 0) {i : Nat} (hb : bit (spanAt h p).2.2.1 i = true) : (i : Int) < cb (spanAt h p).2.1 := by
 obtain ⟨hu, c0, c3, hlt⟩ := right_use (f.right _ ip.mem) hs
 have := bit_room (hf _ ip.mem) hlt hb
 have := cb_le (spanAt h p).2.1
 omega
theorem lay7_l0 {a : Int} (h0 : 0 ≤ a) (n : Int) (h : Heap) (s : Span) (x y : Bool × Unit) (ws : List Int) (ss : List Span) (hl : a + cw s.2.1 ≤ ws.length) (hw : ws.length ≤ 512) :
  r07_Lay_l0 (n, a, 0, h, x, s, y, ws, ss, ()) = some (.out (n, a, h, x, s, y, zer ws a.toNat (cw s.2.1).toNat, ss, ())) := by
 have hc := cw_le s.2.1
 unfold r07_Lay_l0
 refine iterL_run (cw s.2.1).toNat (fun i => (n, a, (i : Int), h, x, s, y, zer ws a.toNat i, ss, ())) (fun i hi => ?_) ?_ (by omega) (by simp only [zer_zero]; rfl)
 ·simp only [r07_Lay_s0, r07_Lay_s0r, Bool.cond_decide, words4_eq, Option.bind_some]
  rw [if_pos (by omega), wi64_id (by omega) (by omega), wi64_id (by omega) (by omega), if_pos (by omega), zer_len (by omega), if_pos (by omega), show (a + (i : Int)).toNat = a.toNat + i by omega, zer_succ (by omega)]
  rfl
 ·simp only [r07_Lay_s0, r07_Lay_s0r, Bool.cond_decide, words4_eq, Option.bind_some]
  rw [if_neg (by omega)]
theorem getD_set_self {α : Type} {l : List α} {n : Nat} (hn : n < l.length) (x z : α) : (l.set n x).getD n z = x := by
 rw [get_d _ _ _ (by rw [List.length_set]; exact hn), List.getElem_set_self]
theorem lay_in {h : Heap} (f : FormP h) (hf : FreeP h) {p n : Int} (q : layP h p n) : ∃ i : Nat, lowP (spanAt h p).2.2.1 i ∧ (i : Int) < cb (spanAt h p).2.1 ∧
  heap_Lay (h, p, n, ()) = some (laid h p i n, layA h p i, true, ()) ∧ r07_Lay (h, p, n, ()) = some (laid h p i n, layA h p i, true, ()) := by
 obtain ⟨ip, hs, hz, n0, n1⟩ := q
 have hR := f.right _ ip.mem
 have h0 := hf _ ip.mem
 obtain ⟨i, hi, hb, hlow, t1, t2⟩ := take_in h0 (rightB_free hR h0) hs hz
 have hib := lay_low f hf ip (by omega) hb
 obtain ⟨⟨c0, c3⟩, m0, m1⟩ := lay_room f hf ip (by omega) hib
 have hn := f.n16
 have hl := f.len
 have i0 := ip.1
 have i1 := ip.2
 have hw := cw_le (spanAt h p).2.1
 have hset : p.toNat < h.2.1.length := by omega
 refine ⟨i, ⟨hb, hlow⟩, hib, ?_, ?_⟩
 ·simp only [heap_Lay, heap_Lay_r, page_in ip, t1, class_Fields_eq, clone8_eq (show h.1.length ≤ 512 by omega), clone24_eq (show h.2.1.length ≤ 512 by omega), Option.bind_some, Bool.cond_decide, condn, cond_true, Bool.not_true, cond_false]
  simp only [show ((0 : Int), (0 : Int), (0 : Int), ()) = sz from rfl, List.length_set, getD_set_self hset]
  rw [if_pos (by omega), if_pos (show 0 ≤ (spanAt h p).2.1 ∧ (spanAt h p).2.1 < 4 by omega), if_pos (by omega), if_pos i0, if_pos i1, if_pos i0, if_pos i1]
  simp only [arena_Address, arena_Address_r, class_Blocks_eq, class_Words_eq, (put_used c0 c3 n0 n1 _).1, Option.bind_some, Bool.cond_decide]
  rw [if_neg (by omega), if_neg (by omega), if_neg (by omega), if_neg (by omega), Option.bind_some]
  dsimp only
  rw [wi64_id (n := p * 32) (by omega) (by omega), wi64_id (n := (i : Int) * cw (spanAt h p).2.1) (by omega) (by omega), wi64_id (n := p * 32 + (i : Int) * cw (spanAt h p).2.1) (by omega) (by omega), wi64_id (by omega) (by omega)]
  rw [show p * 32 + (i : Int) * cw (spanAt h p).2.1 = layA h p i by unfold layA; omega]
  have hA : 0 ≤ layA h p i ∧ layA h p i + cw (spanAt h p).2.1 ≤ h.1.length := by unfold layA; omega
  rw [show (layA h p i + cw (spanAt h p).2.1).toNat - (layA h p i).toNat = (cw (spanAt h p).2.1).toNat by omega]
  change (if 0 ≤ layA h p i then if layA h p i ≤ layA h p i + cw (spanAt h p).2.1 then if layA h p i + cw (spanAt h p).2.1 ≤ (h.1.length : Int) then if 0 ≤ layA h p i then if layA h p i < ((zer h.1 (layA h p i).toNat (cw (spanAt h p).2.1).toNat).length : Int) then some (((zer h.1 (layA h p i).toNat (cw (spanAt h p).2.1).toNat).set (layA h p i).toNat _, _, _), _, _, _) else none else none else none else none else none) = _
  have h2 := cw_pos c0 c3
  rw [if_pos (by omega), if_pos (by omega), if_pos (by omega), if_pos (by omega), zer_len (by omega), if_pos (by omega)]
  rfl
 ·simp only [r07_Lay, r07_Lay_r, Bool.cond_decide, words4_eq, Option.bind_some]
  simp only [show ((0 : Int), (0 : Int), (0 : Int), ()) = sz from rfl]
  change (if p < 0 then _ else if p ≥ (h.2.1.length : Int) then _ else if n < 0 then _ else if 0 ≤ p then if p < (h.2.1.length : Int) then if n ≥ cw (spanAt h p).2.1 then _ else if 0 ≤ p then if p < (h.2.1.length : Int) then (r06_Take (spanAt h p, ())).bind _ else _ else _ else _ else _) = _
  rw [if_neg (by omega), if_neg (by omega), if_neg (by omega), if_pos i0, if_pos i1, if_neg (by omega), if_pos i0, if_pos i1, t2, Option.bind_some]
  simp only [Bool.not_true, cond_false, with7_in f ip, Option.bind_some, r05_Address, r05_Address_r, blocks4_eq, words4_eq, Bool.cond_decide]
  rw [if_neg (by omega), if_neg (by omega), if_neg (by omega), if_neg (by omega), Option.bind_some]
  dsimp only
  rw [wi64_id (n := 32 * p) (by omega) (by omega), wi64_id (n := (i : Int) * cw (spanAt h p).2.1) (by omega) (by omega), wi64_id (by omega) (by omega)]
  rw [show 32 * p + (i : Int) * cw (spanAt h p).2.1 = layA h p i from rfl]
  have hA : 0 ≤ layA h p i ∧ layA h p i + cw (spanAt h p).2.1 ≤ h.1.length := by unfold layA; omega
  have h2 := cw_pos c0 c3
  rw [lay7_l0 hA.1 _ _ _ _ _ _ _ (by exact hA.2) (by show h.1.length ≤ 512; omega)]
  simp only [Option.bind_some, (put_used c0 c3 n0 n1 _).2]
  change (if 0 ≤ layA h p i then if layA h p i < ((zer h.1 (layA h p i).toNat (cw (spanAt h p).2.1).toNat).length : Int) then _ else _ else _) = _
  rw [if_pos (by omega), zer_len (by omega), if_pos (by omega)]
  rfl
end Go.Proofs.YtkjpakaidjpjgaaGreatDoor.Dfn
/- Pure laws: alike. -/
namespace Go.Proofs.YtkjpakaidjpjgaaGreatDoor.Dfn
open Go
set_option linter.unusedVariables false
set_option linter.unusedSimpArgs false
set_option maxRecDepth 100000
theorem list_eq_of {α : Type} {a b : List α} (hl : a.length = b.length) (h : ∀ j (ha : j < a.length) (hb : j < b.length), a[j] = b[j]) : a = b :=
 List.ext_getElem hl h
theorem same5_eq (a b : List Int) (ha : a.length < 9223372036854775807) : r05_Same (a, b, ()) = some (decide (a = b), ()) := by
 simp only [r05_Same, r05_Same_r, ibne, Bool.cond_decide]
 by_cases hl : a.length = b.length
 ·rw [if_neg (by omega)]
  have key : ∃ l, r05_Same_l0 (a, b, 0, ()) = some l ∧ l = (if a = b then .out () else .ret (false, ())) := by
   unfold r05_Same_l0
   refine iterL_rule (fun n x => ∃ i : Nat, i ≤ a.length ∧ n = a.length - i ∧ x = (a, b, (i : Int), ()) ∧ ∀ j (h1 : j < a.length) (h2 : j < b.length), j < i → a[j] = b[j]) ?_ _ a.length _ (by omega) ⟨0, by omega, rfl, rfl, fun j _ _ hj => by omega⟩
   rintro n x ⟨i, i1, rfl, rfl, hi⟩
   simp only [r05_Same_s0, r05_Same_s0r, Bool.cond_decide, ibne]
   by_cases hn : i < a.length
   ·rw [if_pos (by omega), if_pos (by omega), if_pos (by omega), if_pos (by omega), if_pos (by omega), Int.toNat_natCast, get_d _ _ _ hn, get_d _ _ _ (by omega : i < b.length)]
    by_cases e : a[i] = b[i]
    ·rw [if_neg (by simpa using e), wi64_id (by omega) (by omega)]
     refine .inl ⟨a.length - (i + 1), (a, b, ((i + 1 : Nat) : Int), ()), by omega, rfl, i + 1, by omega, rfl, rfl, fun j h1 h2 h3 => ?_⟩
     by_cases e' : j = i
     ·subst e'; exact e
     ·exact hi j h1 h2 (by omega)
    ·rw [if_pos e]
     refine .inr ⟨_, rfl, ?_⟩
     rw [if_neg]
     intro h; subst h; exact e rfl
   ·rw [if_neg (by omega)]
    refine .inr ⟨_, rfl, ?_⟩
    rw [if_pos (list_eq_of hl fun j h1 h2 => hi j h1 h2 (by omega))]
  obtain ⟨l, e, rfl⟩ := key
  rw [e]
  by_cases h : a = b
  ·simp [h]
  ·simp [h]
 ·rw [if_pos (by omega)]
  have : a ≠ b := fun h => hl (by rw [h])
  simp [this]
theorem same7_eq (a b : Heap) (ha : a.1.length < 9223372036854775807) (hs : a.2.1.length < 9223372036854775807) : r07_Same (a, b, ()) = some (decide (a.2.2.1 = b.2.2.1 ∧ a.2.1 = b.2.1 ∧ a.1 = b.1), ()) := by
 simp only [r07_Same, r07_Same_r, ibne, Bool.cond_decide, same5_eq _ _ ha, Option.bind_some, condn]
 by_cases hb : a.2.2.1 = b.2.2.1
 rotate_left
 ·have : (a.2.2.1 == b.2.2.1) = false := by simpa using hb
  simp [this, hb]
 simp only [hb, beq_self_eq_true, cond_true, true_and]
 by_cases hl : a.2.1.length = b.2.1.length
 rotate_left
 ·rw [if_pos (by omega)]
  have : a.2.1 ≠ b.2.1 := fun h => hl (by rw [h])
  simp [this]
 rw [if_neg (by omega)]
 by_cases hw : a.1 = b.1
 rotate_left
 ·simp [hw]
 have key : ∃ l, r07_Same_l0 (0, a, b, ()) = some l ∧ l = (if a.2.1 = b.2.1 then .out () else .ret (false, ())) := by
  unfold r07_Same_l0
  refine iterL_rule (fun n x => ∃ i : Nat, i ≤ a.2.1.length ∧ n = a.2.1.length - i ∧ x = ((i : Int), a, b, ()) ∧ ∀ j (h1 : j < a.2.1.length) (h2 : j < b.2.1.length), j < i → a.2.1[j] = b.2.1[j]) ?_ _ a.2.1.length _ (by omega) ⟨0, by omega, rfl, rfl, fun j _ _ hj => by omega⟩
  rintro n x ⟨i, i1, rfl, rfl, hi⟩
  simp only [r07_Same_s0, r07_Same_s0r, Bool.cond_decide, condn]
  by_cases hn : i < a.2.1.length
  ·rw [if_pos (by omega), if_pos (by omega), if_pos (by omega), if_pos (by omega), if_pos (by omega), Int.toNat_natCast, get_d _ _ _ hn, get_d _ _ _ (by omega : i < b.2.1.length)]
   have hcmp : ((a.2.1[i].1 == b.2.1[i].1) && ((a.2.1[i].2.1 == b.2.1[i].2.1) && ((a.2.1[i].2.2.1 == b.2.1[i].2.2.1) && true))) = decide (a.2.1[i] = b.2.1[i]) := by
    simp only [Bool.and_true]
    rw [Bool.eq_iff_iff]
    simp only [Bool.and_eq_true, beq_iff_eq, decide_eq_true_eq]
    constructor
    ·rintro ⟨h1, h2, h3⟩
     exact Prod.ext h1 (Prod.ext h2 (Prod.ext h3 rfl))
    ·intro h; rw [h]; exact ⟨rfl, rfl, rfl⟩
   rw [hcmp, Bool.cond_decide]
   by_cases e : a.2.1[i] = b.2.1[i]
   ·rw [if_pos e, wi64_id (by omega) (by omega)]
    refine .inl ⟨a.2.1.length - (i + 1), (((i + 1 : Nat) : Int), a, b, ()), by omega, rfl, i + 1, by omega, rfl, rfl, fun j h1 h2 h3 => ?_⟩
    by_cases e' : j = i
    ·subst e'; exact e
    ·exact hi j h1 h2 (by omega)
   ·rw [if_neg e]
    refine .inr ⟨_, rfl, ?_⟩
    rw [if_neg]
    intro h
    apply e
    simp only [h]
  ·rw [if_neg (by omega)]
   refine .inr ⟨_, rfl, ?_⟩
   rw [if_pos (list_eq_of hl fun j h1 h2 => hi j h1 h2 (by omega))]
 obtain ⟨l, e, rfl⟩ := key
 rw [e]
 by_cases h : a.2.1 = b.2.1
 ·simp [hw, h]
 ·simp [hw, h]
end Go.Proofs.YtkjpakaidjpjgaaGreatDoor.Dfn
/- Pure laws: the heap keeps its form; the program does as the reference. -/
namespace Go.Proofs.YtkjpakaidjpjgaaGreatDoor.Dfn
open Go
set_option linter.unusedVariables false
set_option linter.unusedSimpArgs false
set_option maxRecDepth 100000
structure HP (h : Heap) : Prop where
 f : FormP h
 fr : FreeP h
def WP (ws : List Int) : Prop := ∀ w ∈ ws, (0 : Int) ≤ w ∧ w < 18446744073709551616
theorem wp_zer {ws : List Int} (hw : WP ws) (a k : Nat) : WP (zer ws a k) := by
 intro w hm
 simp only [zer, segSet, List.mem_append] at hm
 rcases hm with (hm | hm) | hm
 ·exact hw w (List.mem_of_mem_take hm)
 ·rw [(List.mem_replicate.1 hm).2]; omega
 ·exact hw w (List.mem_of_mem_drop hm)
theorem hp_words {h : Heap} (q : HP h) {ws : List Int} (hw : WP ws) (hl : ws.length = h.1.length) : HP (ws, h.2.1, h.2.2) :=
 ⟨⟨q.f.n1, q.f.n16, by show ws.length = _; rw [hl]; exact q.f.len, q.f.right, hw⟩, q.fr⟩
theorem hp_setSp {h : Heap} (q : HP h) (p : Int) {s : Span} (hr : rightB s = true) (h0 : 0 ≤ s.2.2.1) : HP (setSp h p s) := ⟨setSp_form q.f p hr, setSp_free q.fr p h0⟩
theorem right_sz : rightB sz = true := by kernel_rfl
theorem right_new {c : Int} (c0 : 0 ≤ c) (c3 : c ≤ 3) : rightB (1, c, 2 ^ (cb c).toNat - 1, ()) = true ∧ (0 : Int) ≤ 2 ^ (cb c).toNat - 1 := by
 have : (0 : Int) < 2 ^ (cb c).toNat := Int.pow_pos (by decide)
 refine ⟨?_, by omega⟩
 simp only [rightB]
 rw [if_neg (by decide)]
 exact decide_eq_true ⟨.inl trivial, c0, c3, by omega⟩
theorem right_xr {s : Span} (hr : rightB s = true) (h0 : 0 ≤ s.2.2.1) (hu : s.1 ≠ 0) {i : Nat} (hi : (i : Int) < cb s.2.1) : rightB (s.1, s.2.1, xr s.2.2.1 i, ()) = true := by
 obtain ⟨a, b, c, d⟩ := right_use hr hu
 simp only [rightB]
 rw [if_neg hu]
 exact decide_eq_true ⟨a, b, c, xr_lt h0 d (by omega)⟩
theorem opened_hp {h : Heap} (q : HP h) {p c : Int} (i : openP h p c) : HP (opened h p c) :=
 hp_setSp q p (right_new i.2.1 i.2.2.1).1 (right_new i.2.1 i.2.2.1).2
theorem freed_hp {h : Heap} (q : HP h) {a : Int} (i : freeP h a) : HP (freed h a) := by
 obtain ⟨hb, hg⟩ := i
 obtain ⟨ip, es⟩ := fnd_page hb
 have hr := fnd_room q.f hb
 have hc := cw_le (spanOf h a).2.1
 have hR := q.f.right _ ip.mem
 have h0 := q.fr _ ip.mem
 rw [es] at hR h0
 have hu : (spanOf h a).1 ≠ 0 := by have := hg.1; omega
 have := hp_words (hp_setSp q (a / 32) (right_xr hR h0 hu (i := (blkI h a).toNat) (by have := hg.2.1; have := hg.2.2.1; omega)) (xr_nonneg _ _)) (ws := zer h.1 a.toNat (cw (spanOf h a).2.1).toNat) (wp_zer q.f.word _ _) (zer_len (by omega))
 exact this
end Go.Proofs.YtkjpakaidjpjgaaGreatDoor.Dfn
