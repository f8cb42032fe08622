
/- Pure laws: object.List. -/
import Derived.Test.YtdiogegolnoeoaaDoorDenPl
import Derived.Test.YtdiogegolnoeoaaDoorDenPe
import Derived.Test.YtdiogegolnoeoaaDoorDenFz
namespace Go.Proofs.YtdiogegolnoeoaaDoor.Den
open Go
set_option linter.unusedVariables false
set_option linter.unusedSimpArgs false
set_option maxRecDepth 100000

theorem class_Blocks_eq (c : Int) : class_Blocks (c, ()) = some (cb c, ()) := by
  simp only [class_Blocks, class_Blocks_r, class_is_eq, Option.bind_some, Bool.cond_decide]
  rcases class_cases c with rfl | rfl | rfl | rfl | h
  · rfl
  · rfl
  · rfl
  · rfl
  · have e : decide (0 ≤ c ∧ c < 4) = false := by
      rw [decide_eq_false_iff_not]
      omega
    rw [e, cb_out h]
    rfl
theorem okA_find {h : Heap} {a : Int} (ho : okA h a = true) : fndB h a = true := (og_ok ho).1
theorem lstN_skip {h : Heap} {n : Nat} : ∀ {m : Nat}, n ≤ m → (∀ j : Nat, n ≤ j → j < m → okA h (j : Int) = false) → lstN h m = lstN h n
  | 0, hm, _ => by
    obtain rfl : n = 0 := by omega
    rfl
  | m + 1, hm, hk => by
    by_cases e : n = m + 1
    · subst e; rfl
    · rw [lstN_succ, hk m (by omega) (by omega), if_neg (by simp)]
      exact lstN_skip (by omega) fun j h1 h2 => hk j h1 (by omega)
theorem spanOf_at {h : Heap} {p j : Nat} (hj : j < 32) : spanOf h ((32 * p + j : Nat) : Int) = h.2.1.getD p sz := by
  unfold spanOf
  have : (((32 * p + j : Nat) : Int) / 32).toNat = p := by omega
  rw [this]
theorem not_ok {h : Heap} {p j : Nat} (hj : j < 32) (hn : (h.2.1.getD p sz).1 = 0 ∨ ((j : Int) % cw (h.2.1.getD p sz).2.1 ≠ 0 ∧ (cw (h.2.1.getD p sz).2.1 = 2 ∨ cw (h.2.1.getD p sz).2.1 = 4 ∨ cw (h.2.1.getD p sz).2.1 = 8 ∨ cw (h.2.1.getD p sz).2.1 = 16))) : okA h ((32 * p + j : Nat) : Int) = false := by
  cases ho : okA h ((32 * p + j : Nat) : Int) with
  | false => rfl
  | true =>
    exfalso
    have hf := okA_find ho
    unfold fndB at hf
    have hf := of_decide_eq_true hf
    rw [spanOf_at hj] at hf
    rcases hn with hn | ⟨hn, hw⟩
    · exact hf.2.2.1 hn
    · have := hf.2.2.2
      rcases hw with e | e | e | e <;> rw [e] at this hn <;> omega
theorem objList_eq {h : Heap} (f : FormP h) : object_List (h, ()) = some (lst h, ()) := by
  have hn := f.n16
  have hl := f.len
  have inner : ∀ p : Nat, p < h.2.1.length → (h.2.1.getD p sz).1 ≠ 0 →
      object_List_l0 ((p : Int), h.2.1, (h.2.1.length : Int), (p : Int), cb (h.2.1.getD p sz).2.1, 0, h, h.2.1.getD p sz, lstN h (32 * p), ()) = some (.out (h.2.1, (h.2.1.length : Int), (p : Int), h, lstN h (32 * (p + 1)), ())) := by
    intro p hp hu
    have hc := f.spanAt (a := ((32 * p : Nat) : Int)) (by omega) (by omega) (by rw [show (32 * p : Nat) = 32 * p + 0 from rfl, spanOf_at (by omega)]; exact hu)
    rw [show (32 * p : Nat) = 32 * p + 0 from rfl, spanOf_at (by omega)] at hc
    have hw : (cw (h.2.1.getD p sz).2.1 = 2 ∧ cb (h.2.1.getD p sz).2.1 = 16) ∨ (cw (h.2.1.getD p sz).2.1 = 4 ∧ cb (h.2.1.getD p sz).2.1 = 8) ∨ (cw (h.2.1.getD p sz).2.1 = 8 ∧ cb (h.2.1.getD p sz).2.1 = 4) ∨ (cw (h.2.1.getD p sz).2.1 = 16 ∧ cb (h.2.1.getD p sz).2.1 = 2) := by
      have : (h.2.1.getD p sz).2.1 = 0 ∨ (h.2.1.getD p sz).2.1 = 1 ∨ (h.2.1.getD p sz).2.1 = 2 ∨ (h.2.1.getD p sz).2.1 = 3 := by omega
      rcases this with e | e | e | e <;> rw [e] <;> simp [cw, cb]
    obtain ⟨w, b, e1, e2, hw', hb'⟩ : ∃ w b : Nat, cw (h.2.1.getD p sz).2.1 = w ∧ cb (h.2.1.getD p sz).2.1 = b ∧ ((w = 2 ∧ b = 16) ∨ (w = 4 ∧ b = 8) ∨ (w = 8 ∧ b = 4) ∨ (w = 16 ∧ b = 2)) ∧ w * b = 32 := by
      rcases hw with ⟨a, c⟩ | ⟨a, c⟩ | ⟨a, c⟩ | ⟨a, c⟩
      · exact ⟨2, 16, a, c, by omega, rfl⟩
      · exact ⟨4, 8, a, c, by omega, rfl⟩
      · exact ⟨8, 4, a, c, by omega, rfl⟩
      · exact ⟨16, 2, a, c, by omega, rfl⟩
    unfold object_List_l0
    refine iterL_run b (fun i => ((p : Int), h.2.1, (h.2.1.length : Int), (p : Int), cb (h.2.1.getD p sz).2.1, (i : Int), h, h.2.1.getD p sz, lstN h (32 * p + i * w), ())) (fun i hi => ?_) ?_ (by omega) (by simp)
    · obtain ⟨k, hk⟩ : ∃ k, k = i * w := ⟨_, rfl⟩
      have hk1 : (i + 1) * w = k + w := by rw [Nat.succ_mul, ← hk]
      have hkw : k % w = 0 := by rw [hk, Nat.mul_mod_left]
      have hiw : k + w ≤ 32 := by
        rw [← hk1, ← hb', Nat.mul_comm w b]
        exact Nat.mul_le_mul_right _ hi
      have hiw' : (i : Int) * (w : Int) = (k : Int) := by rw [hk, Int.natCast_mul]
      have hwp : 2 ≤ w := by omega
      rw [hk1, ← hk]
      have hlen := lstN_len h (32 * p + k)
      have hskip : lstN h (32 * p + (k + w)) = lstN h (32 * p + k + 1) := by
        refine lstN_skip (by omega) fun j h1 h2 => ?_
        obtain ⟨d, rfl⟩ : ∃ d, j = 32 * p + (k + d) := ⟨j - 32 * p - k, by omega⟩
        refine not_ok (by omega) (.inr ⟨?_, by rw [e1]; omega⟩)
        rw [e1]
        have : (k + d) % w = d := by rw [Nat.add_mod, hkw, Nat.zero_add, Nat.mod_mod, Nat.mod_eq_of_lt (by omega)]
        have h3 : ((k + d : Nat) : Int) % (w : Int) = ((d : Nat) : Int) := by rw [← Int.natCast_emod, this]
        rw [h3]
        omega
      simp only [object_List_s0, object_List_s0r, Bool.cond_decide, class_Words_eq, Option.bind_some, e1, e2]
      rw [if_pos (by omega), wi64_id (n := (p : Int) * 32) (by omega) (by omega), hiw', wi64_id (n := (k : Int)) (by omega) (by omega)]
      rw [show (p : Int) * 32 + (k : Int) = ((32 * p + k : Nat) : Int) by omega, wi64_id (n := ((32 * p + k : Nat) : Int)) (by omega) (by omega)]
      rw [objGet_eq f (by omega) (by omega), hskip, lstN_succ]
      simp only [Option.bind_some]
      unfold okA
      cases (og h ((32 * p + k : Nat) : Int)).2.1 with
      | true =>
        simp only [cond_true, if_true]
        rw [if_pos (by omega), wi64_id (n := (i : Int) + 1) (by omega) (by omega)]
        rfl
      | false =>
        simp only [cond_false]
        rw [wi64_id (n := (i : Int) + 1) (by omega) (by omega)]
        rfl
    · simp only [object_List_s0, object_List_s0r, Bool.cond_decide, e2]
      rw [if_neg (by omega), show b * w = 32 by rw [Nat.mul_comm]; exact hb']
      rfl
  have outer : object_List_l1 (h.2.1, (h.2.1.length : Int), 0, h, [], ()) = some (.out (lst h, ())) := by
    unfold object_List_l1
    refine iterL_run h.2.1.length (fun p => (h.2.1, (h.2.1.length : Int), (p : Int), h, lstN h (32 * p), ())) (fun p hp => ?_) ?_ (by omega) (by simp [lstN])
    · simp only [object_List_s1, object_List_s1r, Bool.cond_decide, ibeq, class_Blocks_eq, Option.bind_some]
      rw [if_pos (by omega), if_pos (by omega), if_pos (by omega), Int.toNat_natCast]
      simp only [show ((0 : Int), (0 : Int), (0 : Int), ()) = sz from rfl]
      by_cases hu : (h.2.1.getD p sz).1 = 0
      · rw [if_pos hu, wi64_id (by omega) (by omega)]
        have : lstN h (32 * (p + 1)) = lstN h (32 * p) := lstN_skip (by omega) fun j h1 h2 => by
          have ej : j = 32 * p + (j - 32 * p) := by omega
          rw [ej]
          exact not_ok (by omega) (.inl hu)
        rw [this]
        rfl
      · rw [if_neg hu, inner p hp hu]
        simp only [Option.bind_some]
        rw [wi64_id (by omega) (by omega)]
        rfl
    · simp only [object_List_s1, object_List_s1r, Bool.cond_decide]
      rw [if_neg (by omega)]
      unfold lst
      rw [f.len]
  simp only [object_List, object_List_r, outer, Option.bind_some]
/-- To what an object refers, by the program: as many as it has fields, at most. -/
theorem objRefs_le {h : Heap} (f : FormP h) {a : Int} (ho : okA h a = true) : ∃ l : List Int, object_Refs (h, a, ()) = some (l, ()) ∧ (l.length : Int) ≤ (og h a).1.2.2.2.1 := by
  have hn := f.n16
  have hl := f.len
  obtain ⟨r0, r1, r2, r3, r4⟩ := og_rng f ho
  obtain ⟨c, hc⟩ : ∃ c : Nat, (og h a).1.2.2.2.1 = c := ⟨_, (Int.toNat_of_nonneg r2).symm⟩
  have key : ∃ l, object_Refs_l0 (a, (c : Int), 0, h, [], ()) = some l ∧ ∃ m : List Int, m.length ≤ c ∧ l = .out (m, ()) := by
    unfold object_Refs_l0
    refine iterL_rule (fun n x => ∃ (i : Nat) (m : List Int), i ≤ c ∧ n = c - i ∧ x = (a, (c : Int), (i : Int), h, m, ()) ∧ m.length ≤ i) ?_ _ c _ (by omega) ⟨0, [], by omega, rfl, rfl, by simp⟩
    rintro n x ⟨i, m, i1, rfl, rfl, hm⟩
    simp only [object_Refs_s0, object_Refs_s0r, Bool.cond_decide]
    by_cases hi : i < c
    · have hw := word_at f (a + 1 + i).toNat
      rw [wi64_id (n := a + 1) (by omega) (by omega), wi64_id (n := a + 1 + (i : Int)) (by omega) (by omega)]
      rw [if_pos (by omega), if_pos (by omega), if_pos (by omega), wordGet_eq]
      simp only [Option.bind_some, ibeq, Bool.cond_decide]
      rw [wi64_id (n := (i : Int) + 1) (by omega) (by omega)]
      by_cases e : (wg (h.1.getD (a + 1 + i).toNat 0)).1 = 2
      · rw [if_pos e, if_pos (by omega)]
        exact .inl ⟨c - (i + 1), _, by omega, rfl, i + 1, _, by omega, rfl, rfl, by simp; omega⟩
      · rw [if_neg e]
        exact .inl ⟨c - (i + 1), _, by omega, rfl, i + 1, _, by omega, rfl, rfl, by omega⟩
    · rw [if_neg (by omega)]
      exact .inr ⟨_, rfl, m, by omega, rfl⟩
  obtain ⟨l, e, m, hm, rfl⟩ := key
  refine ⟨m, ?_, by omega⟩
  simp only [object_Refs, object_Refs_r, objGet_eq f (a := a) (by omega) (by omega), Option.bind_some, hc, e]
theorem lst_sorted (h : Heap) : (lst h).Pairwise (· < ·) := by
  unfold lst lstN
  refine List.Pairwise.filter _ ?_
  rw [List.pairwise_map]
  exact (List.pairwise_lt_range (n := h.1.length)).imp fun h => by omega
end Go.Proofs.YtdiogegolnoeoaaDoor.Den
