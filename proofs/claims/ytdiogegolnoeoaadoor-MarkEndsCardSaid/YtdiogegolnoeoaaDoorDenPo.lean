
/- Pure laws: objects. -/
import Derived.Test.YtdiogegolnoeoaaDoorDenPd
import Derived.Test.YtdiogegolnoeoaaDoorDenPn
namespace Go.Proofs.YtdiogegolnoeoaaDoor.Den
open Go
set_option linter.unusedVariables false
set_option linter.unusedSimpArgs false
set_option maxRecDepth 100000

theorem hget_small : ∀ n : Nat, n < 256 → header_Get ((n : Int), ()) = some (hget n) := by
  have : ((List.range 256).all fun n => decide (header_Get ((n : Int), ()) = some (hget n))) = true := by kernel_rfl
  intro n hn
  exact of_decide_eq_true (List.all_eq_true.1 this n (by simpa using hn))
theorem headerGet_eq {w : Int} (h0 : 0 ≤ w) (h1 : w < 18446744073709551616) : header_Get (w, ()) = some (hget w) := by
  by_cases h : w < 256
  · obtain ⟨n, rfl⟩ := Int.eq_ofNat_of_zero_le h0
    exact hget_small n (by omega)
  rw [hget_big (by omega)]
  simp only [header_Get, header_Get_r, ibne]
  have e4 : shiftI false .u64 w 4 = w / 16 := by
    simp only [shiftI, cond_false, IntKind.bits]
    rw [Int.fdiv_eq_ediv_of_nonneg _ (by decide)]
    rfl
  have e0 : shiftI false .u64 w 0 = w := by
    simp only [shiftI, cond_false, IntKind.bits]
    rw [Int.fdiv_eq_ediv_of_nonneg _ (by decide)]
    simp
  rw [e4, e0]
  have m3 := and_mask (y := w / 16) (by omega) (by omega) 2 (by omega)
  have m15 := and_mask h0 h1 4 (by omega)
  simp only [Int.reducePow, Int.reduceSub] at m3 m15
  rw [m3, m15, wi64_id (by omega) (by omega), wi64_id (by omega) (by omega)]
  generalize hk : w / 16 % 4 = k
  generalize hn : w % 16 = n
  obtain ⟨k, rfl⟩ := Int.eq_ofNat_of_zero_le (show 0 ≤ k by omega)
  obtain ⟨n, rfl⟩ := Int.eq_ofNat_of_zero_le (show 0 ≤ n by omega)
  obtain ⟨v, ok, e, v0, v1⟩ := put_small (decide (¬ bitsI .and .u64 w 128 = 0)) (decide (¬ bitsI .and .u64 w 64 = 0)) k n (by omega) (by omega)
  rw [e]
  simp only [Option.bind_some]
  cases ok
  · rfl
  · simp only [Bool.not_true, cond_false, Bool.cond_decide]
    rw [if_pos (by omega)]; rfl

/-! Objects. -/
def og (h : Heap) (a : Int) : Hdr × Bool × Unit := if fndB h a && hok (h.1.getD a.toNat 0) && decide (a % 32 + h.1.getD a.toNat 0 % 16 < 32) then (hd (h.1.getD a.toNat 0), true, ()) else (hz, false, ())
theorem word_at {h : Heap} (f : FormP h) (a : Nat) : 0 ≤ h.1.getD a 0 ∧ h.1.getD a 0 < 18446744073709551616 := by
  by_cases h1 : a < h.1.length
  · rw [get_d _ _ _ h1]; exact f.word _ (List.getElem_mem h1)
  · rw [List.getD, List.getElem?_eq_none (by omega)]; simp
theorem objGet_eq {h : Heap} (f : FormP h) {a : Int} (l : -9223372036854775808 ≤ a) (u : a < 9223372036854775808) : object_Get (h, a, ()) = some (og h a) := by
  have hn := f.n16
  have hl := f.len
  simp only [object_Get, object_Get_r, find_eq f l u, Option.bind_some, Bool.cond_decide, og, fnd]
  cases hb : fndB h a with
  | false => rfl
  | true =>
    obtain ⟨a0, a1⟩ := fndB_rng hb
    obtain ⟨w0, w1⟩ := word_at f a.toNat
    simp only [if_true, Bool.not_true, cond_false]
    rw [if_pos a0, if_pos (by omega), headerGet_eq w0 w1]
    generalize h.1.getD a.toNat 0 = w at *
    simp only [Option.bind_some, hget]
    by_cases hw : w = 0
    · subst hw; rfl
    rw [if_neg hw]
    cases hk : hok w with
    | false => rfl
    | true =>
      simp only [if_true, Bool.not_true, cond_false, hd, Bool.true_and, Bool.and_self, decide_eq_true_eq]
      rw [wi64_id (n := a / 32 + 1) (by omega) (by omega), wi64_id (n := a + _) (by omega) (by omega), wi64_id (n := _ * 32) (by omega) (by omega)]
      by_cases hc : a % 32 + w % 16 < 32
      · rw [if_neg (by omega), if_pos hc]
      · rw [if_pos (by omega), if_neg hc]; rfl
theorem og_rng {h : Heap} {a : Int} (f : FormP h) (ho : (og h a).2.1 = true) : 0 ≤ a ∧ a % 32 + (og h a).1.2.2.2.1 < 32 ∧ 0 ≤ (og h a).1.2.2.2.1 ∧ a < 32 * h.2.1.length ∧ (og h a).1.2.2.2.1 ≤ 15 := by
  unfold og at *
  split at ho
  · rename_i hc
    simp only [hc, if_true, hd]
    simp only [Bool.and_eq_true, decide_eq_true_eq] at hc
    have := fndB_rng hc.1.1
    omega
  · cases ho
end Go.Proofs.YtdiogegolnoeoaaDoor.Den
