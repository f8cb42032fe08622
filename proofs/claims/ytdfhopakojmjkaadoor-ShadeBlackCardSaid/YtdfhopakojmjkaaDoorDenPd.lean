/- Pure laws: blocks, headers, objects. -/
import Derived.Test.YtdfhopakojmjkaaDoorDenPc
namespace Go.Proofs.YtdfhopakojmjkaaDoor.Den
open Go
set_option linter.unusedVariables false
set_option linter.unusedSimpArgs false
set_option maxRecDepth 100000

def sz : Span := (0, 0, 0, ())
theorem page_eq (h : Heap) (p : Int) : heap_page (h, p, ()) = some (if 0 ≤ p ∧ p < h.2.1.length then (h.2.1.getD p.toNat sz, true, ()) else (sz, false, ())) := by
  simp only [heap_page, heap_page_r, Bool.cond_decide, sz]
  by_cases h1 : p < 0
  · rw [if_pos h1, if_neg (by omega)]
  by_cases h2 : p ≥ (h.2.1.length : Int)
  · rw [if_neg h1, if_pos h2, if_neg (by omega)]
  rw [if_neg h1, if_neg h2, if_pos (by omega), if_pos (by omega), if_pos (by omega)]
def spanOf (h : Heap) (at_ : Int) : Span := h.2.1.getD (at_ / 32).toNat sz
/-- Does a block begin at an address? -/
def fndB (h : Heap) (at_ : Int) : Bool := decide (0 ≤ at_ ∧ at_ < 32 * h.2.1.length ∧ (spanOf h at_).1 ≠ 0 ∧ at_ % cw (spanOf h at_).2.1 = 0)
def fnd (h : Heap) (at_ : Int) : Int × Int × Bool × Unit := if fndB h at_ then (at_ / 32, at_ % 32 / cw (spanOf h at_).2.1, true, ()) else (0, 0, false, ())
theorem FormP.spanAt {h : Heap} (f : FormP h) {a : Int} (h0 : 0 ≤ a) (h1 : a < 32 * h.2.1.length) (hu : (spanOf h a).1 ≠ 0) : 0 ≤ (spanOf h a).2.1 ∧ (spanOf h a).2.1 ≤ 3 := by
  have hn : (a / 32).toNat < h.2.1.length := by omega
  unfold spanOf at *
  rw [get_d _ _ _ hn] at *
  exact f.span (List.getElem_mem hn) hu
theorem cw_pos {c : Int} (h0 : 0 ≤ c) (h3 : c ≤ 3) : 2 ≤ cw c := by
  unfold cw; split <;> (try split) <;> (try split) <;> (try split) <;> omega
theorem find_eq {h : Heap} (f : FormP h) {a : Int} (l : -9223372036854775808 ≤ a) (u : a < 9223372036854775808) : heap_Find (h, a, ()) = some (fnd h a) := by
  have hn := f.n16
  simp only [heap_Find, heap_Find_r, page_eq, Option.bind_some, Bool.cond_decide, ibeq, fnd, fndB, decide_eq_true_eq]
  by_cases h0 : a < 0
  · rw [if_pos h0, if_neg (by omega)]
  rw [if_neg h0, Int.tdiv_eq_ediv_of_nonneg (by omega), wi64_id (by omega) (by omega)]
  by_cases h1 : a < 32 * h.2.1.length
  · rw [if_pos (by omega)]
    simp only [Bool.not_true, cond_false]
    change (if (spanOf h a).1 = 0 then _ else (arena_Place ((spanOf h a).2.1, a, ())).bind _) = _
    by_cases hu : (spanOf h a).1 = 0
    · rw [if_pos hu, if_neg (fun h => h.2.2.1 hu)]
    rw [if_neg hu]
    obtain ⟨c0, c3⟩ := f.spanAt (by omega) h1 hu
    have hc := cw_pos c0 c3
    have hc' := cw_le (spanOf h a).2.1
    simp only [arena_Place, arena_Place_r, class_Words_eq, Option.bind_some, Bool.cond_decide, ibeq, ibne]
    generalize cw (spanOf h a).2.1 = c at *
    rw [if_neg (by omega), if_neg (by omega), if_neg (by omega), if_neg (by omega), Int.tmod_eq_emod_of_nonneg (by omega), Int.tdiv_eq_ediv_of_nonneg (by omega), Int.tmod_eq_emod_of_nonneg (by omega), Int.tdiv_eq_ediv_of_nonneg (by omega)]
    by_cases hm : a % c = 0
    · have hd : a % 32 / c ≤ a % 32 := Int.ediv_le_self _ (by omega)
      have hd' : 0 ≤ a % 32 / c := Int.ediv_nonneg (by omega) (by omega)
      rw [if_neg (by simpa using hm), if_neg (by omega), if_pos ⟨by omega, h1, hu, hm⟩, wi64_id (by omega) (by omega), wi64_id (by omega) (by omega)]
      rfl
    · rw [if_pos hm, if_neg (fun h => hm h.2.2.2)]
      rfl
  · rw [if_neg (by omega)]
    simp only [Bool.not_false, cond_true]
    rw [if_neg (fun h => h1 h.2.1)]

/-! Headers. -/
def hz : Hdr := (false, false, 0, 0, ())
def hok (w : Int) : Bool := decide (128 ≤ w ∧ w < 256) && decide (w % 16 < 2 ^ ((w / 16 % 4).toNat + 1))
def hd (w : Int) : Hdr := (true, decide (w / 64 % 2 = 1), w / 16 % 4, w % 16, ())
def hget (w : Int) : Hdr × Bool × Unit := if w = 0 then (hz, true, ()) else if hok w then (hd w, true, ()) else (hz, false, ())
theorem and_mask {y : Int} (h0 : 0 ≤ y) (h1 : y < 18446744073709551616) (k : Nat) (hk : k ≤ 63) : bitsI .and .u64 y (2 ^ k - 1) = y % 2 ^ k := by
  have hp : (2 : Nat) ^ k ≤ 2 ^ 63 := Nat.pow_le_pow_right (by decide) hk
  have hp0 : 0 < (2 : Nat) ^ k := Nat.pow_pos (by decide)
  have e2 : ((2 : Int) ^ k - 1) = ((2 ^ k - 1 : Nat) : Int) := by
    rw [Int.ofNat_sub hp0]; norm_cast
  obtain ⟨m, rfl⟩ := Int.eq_ofNat_of_zero_le h0
  have hm : m < 18446744073709551616 := by omega
  have e : bitsI .and .u64 (m : Int) (2 ^ k - 1) = wu64 ((m &&& (2 ^ k - 1) : Nat) : Int) := by
    rw [e2]
    change wu64 (((BitVec.ofInt 64 (m : Int)) &&& (BitVec.ofInt 64 ((2 ^ k - 1 : Nat) : Int))).toNat : Int) = _
    rw [BitVec.ofInt_natCast, BitVec.ofInt_natCast, BitVec.toNat_and, BitVec.toNat_ofNat, BitVec.toNat_ofNat]
    rw [Nat.mod_eq_of_lt (by omega : m < 2 ^ 64), Nat.mod_eq_of_lt (by omega : 2 ^ k - 1 < 2 ^ 64)]
  rw [e, Nat.and_two_pow_sub_one_eq_mod]
  have : m % 2 ^ k < 2 ^ k := Nat.mod_lt _ hp0
  rw [wu64_id (by omega) (by omega), Int.natCast_emod, Int.natCast_pow]; rfl
theorem put_small : ∀ (u c : Bool) (k n : Nat), k < 4 → n < 16 → ∃ v ok, header_Put ((u, c, (k : Int), (n : Int), ()), ()) = some (v, ok, ()) ∧ 0 ≤ v ∧ v < 256 := by
  have : ([true, false].all fun u => [true, false].all fun c => (List.range 4).all fun k => (List.range 16).all fun n =>
    match header_Put ((u, c, (k : Int), (n : Int), ()), ()) with
    | some (v, _, _) => decide (0 ≤ v ∧ v < 256)
    | none => false) = true := by kernel_rfl
  intro u c k n hk hn
  simp only [List.all_eq_true] at this
  have h := this u (by cases u <;> simp) c (by cases c <;> simp) k (by simpa using hk) n (by simpa using hn)
  split at h
  · rename_i v ok x e
    exact ⟨v, ok, e, of_decide_eq_true h⟩
  · cases h
theorem hget_small : ∀ n : Nat, n < 256 → header_Get ((n : Int), ()) = some (hget n) := by
  have : ((List.range 256).all fun n => decide (header_Get ((n : Int), ()) = some (hget n))) = true := by kernel_rfl
  intro n hn
  exact of_decide_eq_true (List.all_eq_true.1 this n (by simpa using hn))
theorem hget_big {w : Int} (h : 256 ≤ w) : hget w = (hz, false, ()) := by
  unfold hget hok
  rw [if_neg (by omega)]
  simp [show ¬ w < 256 by omega]
theorem headerGet_eq {w : Int} (h0 : 0 ≤ w) (h1 : w < 18446744073709551616) : header_Get (w, ()) = some (hget w) := by
  by_cases h : w < 256
  · obtain ⟨n, rfl⟩ := Int.eq_ofNat_of_zero_le h0
    exact hget_small n (by omega)
  rw [hget_big (by omega)]
  simp only [header_Get, header_Get_r, ibne]
  have e4 : shiftI false .u64 w 4 = w / 16 := by
    simp only [shiftI, cond_false, IntKind.bits]
    rw [Int.fdiv_eq_ediv_of_nonneg _ (by decide)]
    rfl
  have e0 : shiftI false .u64 w 0 = w := by
    simp only [shiftI, cond_false, IntKind.bits]
    rw [Int.fdiv_eq_ediv_of_nonneg _ (by decide)]
    simp
  rw [e4, e0]
  have m3 := and_mask (y := w / 16) (by omega) (by omega) 2 (by omega)
  have m15 := and_mask h0 h1 4 (by omega)
  simp only [Int.reducePow, Int.reduceSub] at m3 m15
  rw [m3, m15, wi64_id (by omega) (by omega), wi64_id (by omega) (by omega)]
  generalize hk : w / 16 % 4 = k
  generalize hn : w % 16 = n
  obtain ⟨k, rfl⟩ := Int.eq_ofNat_of_zero_le (show 0 ≤ k by omega)
  obtain ⟨n, rfl⟩ := Int.eq_ofNat_of_zero_le (show 0 ≤ n by omega)
  obtain ⟨v, ok, e, v0, v1⟩ := put_small (decide (¬ bitsI .and .u64 w 128 = 0)) (decide (¬ bitsI .and .u64 w 64 = 0)) k n (by omega) (by omega)
  rw [e]
  simp only [Option.bind_some]
  cases ok
  · rfl
  · simp only [Bool.not_true, cond_false, Bool.cond_decide]
    rw [if_pos (by omega)]; rfl

/-! Objects. -/
def og (h : Heap) (a : Int) : Hdr × Bool × Unit := if fndB h a && hok (h.1.getD a.toNat 0) && decide (a % 32 + h.1.getD a.toNat 0 % 16 < 32) then (hd (h.1.getD a.toNat 0), true, ()) else (hz, false, ())
theorem word_at {h : Heap} (f : FormP h) (a : Nat) : 0 ≤ h.1.getD a 0 ∧ h.1.getD a 0 < 18446744073709551616 := by
  by_cases h1 : a < h.1.length
  · rw [get_d _ _ _ h1]; exact f.word _ (List.getElem_mem h1)
  · rw [List.getD, List.getElem?_eq_none (by omega)]; simp
theorem fndB_rng {h : Heap} {a : Int} (hb : fndB h a = true) : 0 ≤ a ∧ a < 32 * h.2.1.length := by
  simp only [fndB, decide_eq_true_eq] at hb; omega
theorem objGet_eq {h : Heap} (f : FormP h) {a : Int} (l : -9223372036854775808 ≤ a) (u : a < 9223372036854775808) : object_Get (h, a, ()) = some (og h a) := by
  have hn := f.n16
  have hl := f.len
  simp only [object_Get, object_Get_r, find_eq f l u, Option.bind_some, Bool.cond_decide, og, fnd]
  cases hb : fndB h a with
  | false => rfl
  | true =>
    obtain ⟨a0, a1⟩ := fndB_rng hb
    obtain ⟨w0, w1⟩ := word_at f a.toNat
    simp only [if_true, Bool.not_true, cond_false]
    rw [if_pos a0, if_pos (by omega), headerGet_eq w0 w1]
    generalize h.1.getD a.toNat 0 = w at *
    simp only [Option.bind_some, hget]
    by_cases hw : w = 0
    · subst hw; rfl
    rw [if_neg hw]
    cases hk : hok w with
    | false => rfl
    | true =>
      simp only [if_true, Bool.not_true, cond_false, hd, Bool.true_and, Bool.and_self, decide_eq_true_eq]
      rw [wi64_id (n := a / 32 + 1) (by omega) (by omega), wi64_id (n := a + _) (by omega) (by omega), wi64_id (n := _ * 32) (by omega) (by omega)]
      by_cases hc : a % 32 + w % 16 < 32
      · rw [if_neg (by omega), if_pos hc]
      · rw [if_pos (by omega), if_neg hc]; rfl
theorem og_rng {h : Heap} {a : Int} (f : FormP h) (ho : (og h a).2.1 = true) : 0 ≤ a ∧ a % 32 + (og h a).1.2.2.2.1 < 32 ∧ 0 ≤ (og h a).1.2.2.2.1 ∧ a < 32 * h.2.1.length ∧ (og h a).1.2.2.2.1 ≤ 15 := by
  unfold og at *
  split at ho
  · rename_i hc
    simp only [hc, if_true, hd]
    simp only [Bool.and_eq_true, decide_eq_true_eq] at hc
    have := fndB_rng hc.1.1
    omega
  · cases ho
end Go.Proofs.YtdfhopakojmjkaaDoor.Den
