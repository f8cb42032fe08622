/- Pure laws: what is reached as a cycle begins. -/
import Derived.Test.YtdfhopakojmjkaaDoorDenSb
namespace Go.Proofs.YtdfhopakojmjkaaDoor.Den
open Go
set_option linter.unusedVariables false
set_option linter.unusedSimpArgs false
set_option maxRecDepth 100000

theorem og_turn (h : Heap) (a : Int) : og (turnS h) a = og h a := rfl
theorem okA_turn (h : Heap) (a : Int) : okA (turnS h) a = okA h a := rfl
theorem refsO_turn (h : Heap) (a : Int) : refsO (turnS h) a = refsO h a := rfl
theorem lst_turn (h : Heap) : lst (turnS h) = lst h := rfl
theorem named_app (us vs : List Val) (a : Int) : named (us ++ vs) a = (named us a || named vs a) := by
  unfold named; rw [List.any_append]
theorem named_iff {vs : List Val} {a : Int} : named vs a = true ↔ ∃ v : Val, v ∈ vs ∧ v.1 = 2 ∧ v.2.1 = a := by
  unfold named one
  rw [List.any_eq_true]
  constructor
  · rintro ⟨v, hv, e⟩
    simp only [Bool.and_eq_true, beq_iff_eq] at e
    exact ⟨v, hv, e.1, e.2⟩
  · rintro ⟨v, hv, e1, e2⟩
    exact ⟨v, hv, by simp only [Bool.and_eq_true, beq_iff_eq]; exact ⟨e1, e2⟩⟩
theorem mem_refsO {h : Heap} {a b : Int} : b ∈ refsO h a ↔ ∃ j : Nat, j < (cnt h a).toNat ∧ (rg (h.1.getD (a + 1 + j).toNat 0)).1 = 2 ∧ (rg (h.1.getD (a + 1 + j).toNat 0)).2.1 = b := by
  unfold refsO rfN
  simp only [List.mem_map, List.mem_filter, List.mem_range, decide_eq_true_eq]
  constructor
  · rintro ⟨v, ⟨⟨j, hj, rfl⟩, h2⟩, e⟩
    exact ⟨j, hj, h2, e⟩
  · rintro ⟨j, hj, h2, e⟩
    exact ⟨_, ⟨⟨j, hj, rfl⟩, h2⟩, e⟩
/-- What is reached from more values, that are reached themselves. -/
theorem Rch.more {h : Heap} {us vs : List Val} (hu : ∀ a, okA h a = true → named us a = true → Rch h vs a) {a : Int} (r : Rch h us a) : Rch h vs a := by
  induction r with
  | base ho hn => exact hu _ ho hn
  | step _ hin ho ih => exact .step ih hin ho
theorem Rch.turn {h : Heap} {vs : List Val} {a : Int} : Rch (turnS h) vs a ↔ Rch h vs a := by
  constructor
  · intro r
    induction r with
    | base ho hn => exact .base ho hn
    | step _ hin ho ih => exact .step ih hin ho
  · intro r
    induction r with
    | base ho hn => exact .base (h := turnS h) ho hn
    | step _ hin ho ih => exact .step (h := turnS h) ih hin ho
/-- What pending writes take away is reached from what is held. -/
theorem pend_reached {h : Heap} (f : FormP h) {ms : List MutT} {a : Int} (ho : okA h a = true) (hn : named (pendL h ms) a = true) : Rch h (heldL ms) a := by
  obtain ⟨v, hv, v1, v2⟩ := named_iff.1 hn
  unfold pendL at hv
  obtain ⟨m, hm, hv⟩ := List.mem_flatMap.1 hv
  unfold pend1 at hv
  split at hv
  · rename_i h4
    rw [List.mem_singleton] at hv
    by_cases e : fe h m.2.2.2.1 m.2.2.1.2.2.1 = 0
    · obtain ⟨k1, k2, k3⟩ := fe_ok e
      have hv' : v = rg (h.1.getD (m.2.2.2.1 + 1 + m.2.2.1.2.2.1).toNat 0) := by
        rw [hv, fldV, if_pos e]
        obtain ⟨w0, w1⟩ := word_at f (m.2.2.2.1 + 1 + m.2.2.1.2.2.1).toNat
        exact wg_rg w0 w1
      have hobj : Rch h (heldL ms) m.2.2.2.1 := by
        refine .base k1 (named_iff.2 ⟨(2, m.2.2.2.1, ()), ?_, rfl, rfl⟩)
        unfold heldL
        refine List.mem_flatMap.2 ⟨m, hm, List.mem_append.2 (.inr ?_)⟩
        unfold regs
        rw [if_neg (by omega), if_neg (by omega), if_pos h4]
        exact List.mem_cons_self
      refine .step hobj (mem_refsO.2 ⟨m.2.2.1.2.2.1.toNat, by omega, ?_⟩) ho
      rw [Int.toNat_of_nonneg k2, ← hv']
      exact ⟨v1, v2⟩
    · rw [fldV, if_neg e] at hv
      subst hv
      have : (0 : Int) = 2 := v1
      omega
  · cases hv
theorem begin_reached {h : Heap} (f : FormP h) (ms : List MutT) (a : Int) : Rch (turnS h) (heldL ms ++ pendL h ms) a ↔ Rch h (heldL ms) a := by
  rw [Rch.turn]
  constructor
  · refine Rch.more fun b ho hn => ?_
    rw [named_app, Bool.or_eq_true] at hn
    rcases hn with hn | hn
    · exact .base ho hn
    · exact pend_reached f ho hn
  · refine Rch.more fun b ho hn => .base ho ?_
    rw [named_app, hn, Bool.true_or]
theorem bk_turn {h : Heap} {a : Int} (ho : okA h a = true) : bk (turnS h) a = !bk h a := by
  unfold bk
  rw [og_turn]
  have ho : (og h a).2.1 = true := ho
  rw [ho, Bool.true_and, Bool.true_and]
  show ((og h a).1.2.1 == !h.2.2.1) = _
  cases (og h a).1.2.1 <;> cases h.2.2.1 <;> rfl
end Go.Proofs.YtdfhopakojmjkaaDoor.Den
