
/- Pure laws: the references' headers. -/
import Derived.Test.YtdiogegolnoeoaaDoorDenPn
namespace Go.Proofs.YtdiogegolnoeoaaDoor.Den
open Go
set_option linter.unusedVariables false
set_option linter.unusedSimpArgs false
set_option maxRecDepth 100000

/-! The reference's headers. -/
theorem put2_small : ∀ (c : Bool) (k n : Nat), k < 4 → n < 16 → ∃ m v, flotsamref02_May ((true, c, (k : Int), (n : Int), ()), ()) = some (m, ()) ∧ flotsamref02_Put ((true, c, (k : Int), (n : Int), ()), ()) = some (v, ()) ∧ 0 ≤ v ∧ v < 256 := by
  have : ([true, false].all fun c => (List.range 4).all fun k => (List.range 16).all fun n =>
    match flotsamref02_May ((true, c, (k : Int), (n : Int), ()), ()), flotsamref02_Put ((true, c, (k : Int), (n : Int), ()), ()) with
    | some _, some (v, _) => decide (0 ≤ v ∧ v < 256)
    | _, _ => false) = true := by kernel_rfl
  intro c k n hk hn
  simp only [List.all_eq_true] at this
  have h := this c (by cases c <;> simp) k (by simpa using hk) n (by simpa using hn)
  split at h
  · rename_i m v x e1 e2
    exact ⟨m.1, v, e1, e2, of_decide_eq_true h⟩
  · cases h
theorem hget2_small : ∀ n : Nat, n < 256 → flotsamref02_Get ((n : Int), ()) = some (hget n) := by
  have : ((List.range 256).all fun n => decide (flotsamref02_Get ((n : Int), ()) = some (hget n))) = true := by kernel_rfl
  intro n hn
  exact of_decide_eq_true (List.all_eq_true.1 this n (by simpa using hn))
theorem get2_l0 {w : Int} (hw : 256 ≤ w) {k n : Nat} (hk : k < 4) (hn : n < 16) (c : Hdr) : flotsamref02_Get_l0 (w, k, n, 0, c, ()) = some (.out (w, k, n, c, ())) := by
  unfold flotsamref02_Get_l0
  refine iterL_run 2 (fun i => (w, (k : Int), (n : Int), (i : Int), c, ())) (fun i hi => ?_) rfl (by omega) rfl
  obtain ⟨m, v, e1, e2, v0, v1⟩ := put2_small (decide ((i : Int) = 1)) k n hk hn
  simp only [flotsamref02_Get_s0, flotsamref02_Get_s0r, Bool.cond_decide, e1, e2, Option.bind_some, ibeq]
  rw [if_pos (by omega), if_neg (by omega), wi64_id (by omega) (by omega)]
  cases m <;> rfl
theorem get2_l1 {w : Int} (hw : 256 ≤ w) {k : Nat} (hk : k < 4) (c : Hdr) : flotsamref02_Get_l1 (w, k, 0, c, ()) = some (.out (w, k, c, ())) := by
  unfold flotsamref02_Get_l1
  refine iterL_run 16 (fun i => (w, (k : Int), (i : Int), c, ())) (fun i hi => ?_) rfl (by omega) rfl
  simp only [flotsamref02_Get_s1, flotsamref02_Get_s1r, Bool.cond_decide, get2_l0 hw hk hi, Option.bind_some]
  rw [if_pos (by omega), wi64_id (by omega) (by omega)]
  rfl
theorem get2_l2 {w : Int} (hw : 256 ≤ w) (c : Hdr) : flotsamref02_Get_l2 (w, 0, c, ()) = some (.out (c, ())) := by
  unfold flotsamref02_Get_l2
  refine iterL_run 4 (fun i => (w, (i : Int), c, ())) (fun i hi => ?_) rfl (by omega) rfl
  simp only [flotsamref02_Get_s2, flotsamref02_Get_s2r, Bool.cond_decide, get2_l1 hw hi, Option.bind_some]
  rw [if_pos (by omega), wi64_id (by omega) (by omega)]
  rfl
theorem headerGet2_eq {w : Int} (h0 : 0 ≤ w) : flotsamref02_Get (w, ()) = some (hget w) := by
  by_cases h : w < 256
  · obtain ⟨n, rfl⟩ := Int.eq_ofNat_of_zero_le h0
    exact hget2_small n (by omega)
  rw [hget_big (by omega)]
  simp only [flotsamref02_Get, flotsamref02_Get_r, ibeq, Bool.cond_decide, get2_l2 (show 256 ≤ w by omega), Option.bind_some]
  rw [if_neg (by omega)]; rfl
end Go.Proofs.YtdiogegolnoeoaaDoor.Den
