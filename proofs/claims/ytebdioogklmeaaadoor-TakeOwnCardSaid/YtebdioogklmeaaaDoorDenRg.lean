
/- Pure laws: a page opened, closed; a block freed, an object laid. -/
import Derived.Test.YtebdioogklmeaaaDoorDenRf
namespace Go.Proofs.YtebdioogklmeaaaDoor.Den
open Go
set_option linter.unusedVariables false
set_option linter.unusedSimpArgs false
set_option maxRecDepth 100000

theorem with7_l0 (h : Heap) (hl : h.2.1.length ≤ 16) (p : Nat) (hp : p < h.2.1.length) (s : Span) :
    flotsamref07_with_l0 (p, 0, h, s, (false, ()), (h.2.2.1, ()), h.1, [], ()) = some (.out ((false, ()), (h.2.2.1, ()), h.1, h.2.1.set p s, ())) := by
  unfold flotsamref07_with_l0
  refine iterL_run h.2.1.length (fun i => ((p : Int), (i : Int), h, s, (false, ()), (h.2.2.1, ()), h.1, (h.2.1.set p s).take i, ())) (fun i hi => ?_) ?_ (by omega) rfl
  · simp only [flotsamref07_with_s0, flotsamref07_with_s0r, Bool.cond_decide, ibeq]
    have hi' : i < (h.2.1.set p s).length := by rw [List.length_set]; exact hi
    have ht : (h.2.1.set p s).take (i + 1) = (h.2.1.set p s).take i ++ [(h.2.1.set p s)[i]] := (List.take_append_getElem hi').symm
    have hlen : ((h.2.1.set p s).take i).length = i := by rw [List.length_take]; omega
    by_cases e : p = i
    · rw [if_pos (by omega), if_pos (by omega), if_pos (by omega), if_pos (show (i : Int) = p by omega), if_pos (by omega), wi64_id (by omega) (by omega), ht, List.getElem_set, if_pos e]; rfl
    · rw [if_pos (by omega), if_pos (by omega), if_pos (by omega), if_neg (show ¬ (i : Int) = p by omega), if_pos (by omega), wi64_id (by omega) (by omega), ht, List.getElem_set, if_neg e, Int.toNat_natCast, get_d _ _ _ hi]; rfl
  · simp only [flotsamref07_with_s0, flotsamref07_with_s0r, Bool.cond_decide]
    rw [if_neg (by omega), List.take_of_length_le (by rw [List.length_set]; exact Nat.le_refl _)]
theorem with7_eq {h : Heap} (f : FormP h) (p : Nat) (hp : p < h.2.1.length) (s : Span) : flotsamref07_with (h, (p : Int), s, ()) = some ((h.1, h.2.1.set p s, h.2.2), ()) := by
  have hn := f.n16
  have hl := f.len
  simp only [flotsamref07_with, flotsamref07_with_r, Bool.cond_decide]
  rw [if_pos (by omega), with7_l0 h hn p hp]
  rfl
theorem whole3_eq {c : Int} (h0 : 0 ≤ c) (h3 : c ≤ 3) : flotsamref03_Whole (cb c, ()) = some (2 ^ (cb c).toNat - 1, ()) := by
  obtain rfl | rfl | rfl | rfl : c = 0 ∨ c = 1 ∨ c = 2 ∨ c = 3 := by omega
  all_goals kernel_rfl

/-! A page. -/
def spanAt (h : Heap) (p : Int) : Span := h.2.1.getD p.toNat sz
def inP (h : Heap) (p : Int) : Prop := 0 ≤ p ∧ p < h.2.1.length
theorem inP.nat {h : Heap} {p : Int} (i : inP h p) : ∃ n : Nat, p = n ∧ n < h.2.1.length ∧ spanAt h p = h.2.1.getD n sz := by
  obtain ⟨i0, i1⟩ := i
  exact ⟨p.toNat, by omega, by omega, rfl⟩
theorem inP.mem {h : Heap} {p : Int} (i : inP h p) : spanAt h p ∈ h.2.1 := by
  obtain ⟨n, rfl, hn, e⟩ := i.nat
  rw [e, get_d _ _ _ hn]; exact List.getElem_mem hn
def setSp (h : Heap) (p : Int) (s : Span) : Heap := (h.1, h.2.1.set p.toNat s, h.2.2)
theorem page_in {h : Heap} {p : Int} (i : inP h p) : heap_page (h, p, ()) = some (spanAt h p, true, ()) := by
  rw [page_eq, if_pos (show 0 ≤ p ∧ p < (h.2.1.length : Int) from i)]; rfl
theorem page_out {h : Heap} {p : Int} (i : ¬ inP h p) : heap_page (h, p, ()) = some (sz, false, ()) := by
  rw [page_eq, if_neg (show ¬ (0 ≤ p ∧ p < (h.2.1.length : Int)) from i)]
theorem with7_in {h : Heap} (f : FormP h) {p : Int} (i : inP h p) (s : Span) : flotsamref07_with (h, p, s, ()) = some (setSp h p s, ()) := by
  obtain ⟨n, rfl, hn, e⟩ := i.nat
  rw [with7_eq f n hn]; rfl
theorem clone8_eq {l : List Int} (h : l.length ≤ 512) : slices_Clone_uint64 (l, ()) = some (l, ()) := by
  simp only [slices_Clone_uint64, cloneF, Bool.cond_decide]
  rw [if_pos (by omega)]
theorem clone24_eq {l : List Span} (h : l.length ≤ 512) : slices_Clone_api_Span (l, ()) = some (l, ()) := by
  simp only [slices_Clone_api_Span, cloneF, Bool.cond_decide]
  rw [if_pos (by omega)]

/-! Masks with a number turned. -/
def xr (m : Int) (i : Nat) : Int := ((m.toNat ^^^ 2 ^ i : Nat) : Int)
theorem xr_nat (m i : Nat) : xr (m : Int) i = ((m ^^^ 2 ^ i : Nat) : Int) := rfl
theorem xr_nonneg (m : Int) (i : Nat) : 0 ≤ xr m i := Int.natCast_nonneg _
theorem xr_bit {m : Int} (h0 : 0 ≤ m) (i j : Nat) : bit (xr m i) j = if j = i then !bit m j else bit m j := by
  obtain ⟨m, rfl⟩ := Int.eq_ofNat_of_zero_le h0
  rw [xr_nat, bit_test, bit_test, Nat.testBit_xor, bit_two]
  by_cases e : j = i
  · subst e; simp
  · rw [if_neg e, decide_eq_false (fun h => e h.symm), Bool.xor_false]
theorem xr_lt {m : Int} (h0 : 0 ≤ m) {i k : Nat} (hm : m < 2 ^ k) (hi : i < k) : xr m i < 2 ^ k := by
  obtain ⟨m, rfl⟩ := Int.eq_ofNat_of_zero_le h0
  rw [xr_nat]
  rw [pow_cast] at hm ⊢
  have h1 : m < 2 ^ k := Int.ofNat_lt.1 hm
  exact Int.ofNat_lt.2 (Nat.xor_lt_two_pow h1 (Nat.pow_lt_pow_right (by decide) hi))
theorem xr_xr {m : Int} (h0 : 0 ≤ m) (i : Nat) : xr (xr m i) i = m := by
  obtain ⟨m, rfl⟩ := Int.eq_ofNat_of_zero_le h0
  rw [xr_nat, xr_nat, Nat.xor_assoc, Nat.xor_self, Nat.xor_zero]
theorem bit_ext {a b : Int} (ha : 0 ≤ a) (hb : 0 ≤ b) (h : ∀ j, bit a j = bit b j) : a = b := by
  obtain ⟨a, rfl⟩ := Int.eq_ofNat_of_zero_le ha
  obtain ⟨b, rfl⟩ := Int.eq_ofNat_of_zero_le hb
  have : a = b := Nat.eq_of_testBit_eq fun j => by rw [← bit_test, ← bit_test, h]
  rw [this]
theorem pcn_xr (m i : Nat) : ∀ n, (n ≤ i → pcn n (m ^^^ 2 ^ i) = pcn n m) ∧ (i < n → (bit (m : Int) i = true → pcn n (m ^^^ 2 ^ i) + 1 = pcn n m) ∧ (bit (m : Int) i = false → pcn n (m ^^^ 2 ^ i) = pcn n m + 1)) := by
  intro n
  induction n with
  | zero => exact ⟨fun _ => rfl, fun h => by omega⟩
  | succ n ih =>
    have hb := xr_bit (show (0 : Int) ≤ m by omega) i n
    rw [xr_nat] at hb
    refine ⟨fun h => ?_, fun h => ?_⟩
    · rw [pcn_bit, pcn_bit, hb, if_neg (by omega), ih.1 (by omega)]
    · by_cases e : n = i
      · subst e
        rw [pcn_bit, pcn_bit, hb, if_pos rfl, ih.1 (Nat.le_refl _)]
        constructor
        · intro h; rw [h]; rfl
        · intro h; rw [h]; rfl
      · rw [pcn_bit, pcn_bit, hb, if_neg e]
        obtain ⟨h1, h2⟩ := ih.2 (by omega)
        constructor
        · intro h; rw [← h1 h]; omega
        · intro h; rw [h2 h]; omega
theorem pcn_full : ∀ k, pcn k (2 ^ k - 1) = k
  | 0 => rfl
  | k + 1 => by
    have hp : 0 < 2 ^ k := Nat.pow_pos (by decide)
    have e1 : (2 ^ (k + 1) - 1) % 2 = 1 := by rw [Nat.pow_succ]; omega
    have e2 : (2 ^ (k + 1) - 1) / 2 = 2 ^ k - 1 := by rw [Nat.pow_succ]; omega
    rw [pcn, e1, e2, pcn_full k]; omega
theorem pcn_full' : ∀ k m, m < 2 ^ k → pcn k m = k → m = 2 ^ k - 1
  | 0, m, h, _ => by simp at h; omega
  | k + 1, m, h, e => by
    have hp : 0 < 2 ^ k := Nat.pow_pos (by decide)
    have hl := pcn_le k (m / 2)
    rw [pcn] at e
    rw [Nat.pow_succ] at h ⊢
    have := pcn_full' k (m / 2) (by omega) (by omega)
    omega
theorem pcn_top {k m : Nat} (hk : k ≤ 32) (h : m < 2 ^ k) : pcn 32 m = pcn k m := by
  have := pcn_add k (32 - k) m
  rw [show k + (32 - k) = 32 by omega, Nat.div_eq_of_lt h, pcn_zero] at this
  omega
theorem pcn_all {k m : Nat} (hk : k ≤ 32) (h : m < 2 ^ k) : pcn 32 m = k ↔ m = 2 ^ k - 1 := by
  rw [pcn_top hk h]
  exact ⟨pcn_full' k m h, fun e => by rw [e, pcn_full]⟩

/-! Open, close. -/
theorem span_New_in {c : Int} (h0 : 0 ≤ c) (h3 : c ≤ 3) : span_New (c, ()) = some ((1, c, 2 ^ (cb c).toNat - 1, ()), true, ()) := by
  have hp : ¬ cb c = 0 := by rcases class4 h0 h3 with ⟨_, e⟩ | ⟨_, e⟩ | ⟨_, e⟩ | ⟨_, e⟩ <;> omega
  simp only [span_New, span_New_r, class_Blocks_eq, whole_eq, Option.bind_some, Bool.cond_decide, ibeq]
  rw [if_neg hp]
theorem span_New_out {c : Int} (h : ¬ (0 ≤ c ∧ c ≤ 3)) : span_New (c, ()) = some (sz, false, ()) := by
  simp only [span_New, span_New_r, class_Blocks_eq, whole_eq, Option.bind_some, Bool.cond_decide, ibeq]
  rw [cb_out (by omega), if_pos rfl]; rfl
def openP (h : Heap) (p c : Int) : Prop := inP h p ∧ 0 ≤ c ∧ c ≤ 3 ∧ (spanAt h p).1 = 0
def opened (h : Heap) (p c : Int) : Heap := setSp h p (1, c, 2 ^ (cb c).toNat - 1, ())
theorem open_in {h : Heap} (f : FormP h) {p c : Int} (i : openP h p c) : heap_Open (h, p, c, ()) = some (opened h p c, true, ()) := by
  obtain ⟨ip, c0, c3, hs⟩ := i
  have hn := f.n16
  have hl := f.len
  have i0 := ip.1
  have i1 := ip.2
  simp only [heap_Open, heap_Open_r, page_in ip, span_New_in c0 c3, clone8_eq (show h.1.length ≤ 512 by omega), clone24_eq (show h.2.1.length ≤ 512 by omega), Option.bind_some, Bool.cond_decide, ibeq, condn, hs, cond_true]
  rw [if_pos trivial, if_pos i0, if_pos i1]; rfl
theorem open_out {h : Heap} {p c : Int} (i : ¬ openP h p c) : heap_Open (h, p, c, ()) = some (h, false, ()) := by
  by_cases ip : inP h p
  · by_cases hc : 0 ≤ c ∧ c ≤ 3
    · have hs : ¬ (spanAt h p).1 = 0 := fun e => i ⟨ip, hc.1, hc.2, e⟩
      simp only [heap_Open, heap_Open_r, page_in ip, span_New_in hc.1 hc.2, Option.bind_some, Bool.cond_decide, ibeq, condn, cond_true]
      rw [if_neg hs]
    · simp only [heap_Open, heap_Open_r, page_in ip, span_New_out hc, Option.bind_some, Bool.not_true, cond_false]
  · simp only [heap_Open, heap_Open_r, page_out ip, Option.bind_some, Bool.not_false, cond_true]
theorem open7_in {h : Heap} (f : FormP h) {p c : Int} (i : openP h p c) : flotsamref07_Open (h, p, c, ()) = some (opened h p c, true, ()) := by
  obtain ⟨ip, c0, c3, hs⟩ := i
  have i0 := ip.1
  have i1 := ip.2
  simp only [flotsamref07_Open, flotsamref07_Open_r, Bool.cond_decide, ibne]
  simp only [show ((0 : Int), (0 : Int), (0 : Int), ()) = sz from rfl]
  change (if p < 0 then _ else if p ≥ (h.2.1.length : Int) then _ else if c < 0 then _ else if c > 3 then _ else if 0 ≤ p then if p < (h.2.1.length : Int) then if ¬ (spanAt h p).1 = 0 then _ else _ else _ else _) = _
  rw [if_neg (by omega), if_neg (by omega), if_neg (by omega), if_neg (by omega), if_pos (by omega), if_pos (by omega), if_neg (by simpa using hs)]
  simp only [blocks4_eq, Option.bind_some, whole3_eq c0 c3, with7_in f ip]
  rfl
theorem open7_out {h : Heap} {p c : Int} (i : ¬ openP h p c) : flotsamref07_Open (h, p, c, ()) = some (h, false, ()) := by
  simp only [flotsamref07_Open, flotsamref07_Open_r, Bool.cond_decide, ibne]
  simp only [show ((0 : Int), (0 : Int), (0 : Int), ()) = sz from rfl]
  change (if p < 0 then _ else if p ≥ (h.2.1.length : Int) then _ else if c < 0 then _ else if c > 3 then _ else if 0 ≤ p then if p < (h.2.1.length : Int) then if ¬ (spanAt h p).1 = 0 then _ else _ else _ else _) = _
  by_cases h1 : p < 0
  · rw [if_pos h1]
  by_cases h2 : p ≥ (h.2.1.length : Int)
  · rw [if_neg h1, if_pos h2]
  by_cases h3 : c < 0
  · rw [if_neg h1, if_neg h2, if_pos h3]
  by_cases h4 : c > 3
  · rw [if_neg h1, if_neg h2, if_neg h3, if_pos h4]
  have hs : ¬ (spanAt h p).1 = 0 := fun e => i ⟨⟨by omega, by omega⟩, by omega, by omega, e⟩
  rw [if_neg h1, if_neg h2, if_neg h3, if_neg h4, if_pos (by omega), if_pos (by omega), if_pos hs]

def closeP (h : Heap) (p : Int) : Prop := inP h p ∧ (spanAt h p).1 ≠ 0 ∧ (spanAt h p).2.2.1 = 2 ^ (cb (spanAt h p).2.1).toNat - 1
theorem right_use {s : Span} (hr : rightB s = true) (hu : s.1 ≠ 0) : (s.1 = 1 ∨ s.1 = 2) ∧ 0 ≤ s.2.1 ∧ s.2.1 ≤ 3 ∧ s.2.2.1 < 2 ^ (cb s.2.1).toNat := by
  simpa only [rightB, if_neg hu, decide_eq_true_eq] using hr
theorem full_iff {s : Span} (hr : rightB s = true) (h0 : 0 ≤ s.2.2.1) (hu : s.1 ≠ 0) : (pcn 32 s.2.2.1.toNat : Int) = cb s.2.1 ↔ s.2.2.1 = 2 ^ (cb s.2.1).toNat - 1 := by
  obtain ⟨_, c0, c3, hl⟩ := right_use hr hu
  have hc := cb_le s.2.1
  obtain ⟨m, hm⟩ := Int.eq_ofNat_of_zero_le h0
  rw [hm] at hl ⊢
  obtain ⟨k, hk⟩ := Int.eq_ofNat_of_zero_le hc.1
  rw [hk] at hl ⊢
  simp only [Int.toNat_natCast] at hl ⊢
  rw [pow_cast] at hl ⊢
  have h1 := pcn_all (k := k) (m := m) (by omega) (Int.ofNat_lt.1 hl)
  have hp : 0 < (2 : Nat) ^ k := Nat.pow_pos (by decide)
  have h2 : (m : Int) = ((2 ^ k : Nat) : Int) - 1 ↔ m = 2 ^ k - 1 := by omega
  rw [h2, ← h1]; omega
theorem count6_eq {s : Span} (h0 : 0 ≤ s.2.2.1) (h1 : s.2.2.1 < 65536) : flotsamref06_Free (s, ()) = some ((pcn 32 s.2.2.1.toNat : Int), ()) := by
  obtain ⟨m, hm⟩ := Int.eq_ofNat_of_zero_le h0
  simp only [flotsamref06_Free, flotsamref06_Free_r, hm, count3_eq (show m < 4294967296 by omega), Option.bind_some, Int.toNat_natCast]
theorem setSp_form {h : Heap} (f : FormP h) (p : Int) {s : Span} (hr : rightB s = true) : FormP (setSp h p s) where
  n1 := by show 1 ≤ (h.2.1.set _ _).length; rw [List.length_set]; exact f.n1
  n16 := by show (h.2.1.set _ _).length ≤ _; rw [List.length_set]; exact f.n16
  len := by show h.1.length = 32 * (h.2.1.set _ _).length; rw [List.length_set]; exact f.len
  right := fun x hx => by
    rcases List.mem_or_eq_of_mem_set hx with h | rfl
    · exact f.right _ h
    · exact hr
  word := f.word
theorem setSp_free {h : Heap} (hf : FreeP h) (p : Int) {s : Span} (h0 : 0 ≤ s.2.2.1) : FreeP (setSp h p s) := fun x hx => by
  rcases List.mem_or_eq_of_mem_set hx with h | rfl
  · exact hf _ h
  · exact h0
end Go.Proofs.YtebdioogklmeaaaDoor.Den
