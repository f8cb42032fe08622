/- Pure laws. -/
import Derived.Test.YtkjpakaidjpjgaaGreatDoorDenP3
/- The pure law CycleEnds. -/
namespace Go.Proofs.YtkjpakaidjpjgaaGreatDoor.Den
open Go
set_option linter.unusedVariables false
set_option linter.unusedSimpArgs false
set_option maxRecDepth 100000
theorem ends20_l0 {w : WrldT} (I : IW w) {N n : Nat} (hN : N ≤ 900000) (P : Pot w n) (hn : n + 1 ≤ N) (hr : w.2.2.2.2.2.2.2.1.length ≤ 50) : w20_CycleEnds_l0 ((N : Int), 0, w, ()) = some (.ret (true, ())) := by
 have key : ∃ l, w20_CycleEnds_l0 ((N : Int), 0, w, ()) = some l ∧ l = .ret (true, ()) := by
  unfold w20_CycleEnds_l0
  refine iterL_rule (fun m x => ∃ (i : Nat) (v : WrldT), x = ((N : Int), (i : Int), v, ()) ∧ Pot v m ∧ m + i + 1 ≤ N ∧ IW v ∧ v.2.2.2.2.2.2.2.1.length ≤ 50 + i) ?_ _ n _ (by omega) ⟨0, w, rfl, P, by omega, I, by omega⟩
  rintro m x ⟨i, v, rfl, P, hm, I, hr⟩
  simp only [w20_CycleEnds_s0, w20_CycleEnds_s0r, Bool.cond_decide]
  rw [if_pos (show (i : Int) < (N : Int) by omega)]
  by_cases c : v.2.2.2.2.1 = 0 ∧ v.2.2.2.2.2.1 = false
  ·rw [c.1, c.2]
   exact .inr ⟨_, rfl, rfl⟩
  ·have hm0 : m ≠ 0 := fun e => by
    subst e
    exact c (pot_zero P)
   obtain ⟨k, rfl⟩ : ∃ k, m = k + 1 := ⟨m - 1, by omega⟩
   obtain ⟨a, x, e, hx, I', P', hr'⟩ := I.turn P c
   have em : cycle_Marker (v, ()) = some (mkrW v) := marker_eq I.ms I.hv I.p I.h4 I.hc (fun e => (I.mkw e).1) (by omega)
   have ef : r20_Form (a, ()) = some (true, ()) := by rw [form20_eq I'.gw, I'.form]
   have hx0 : (x == 0) = false := beq_eq_false_iff_ne.2 hx
   have next : ∃ n' y, n' < k + 1 ∧ (some (.next ((N : Int), wi64 ((i : Int) + 1), a, ())) : Option (SRes w20_CycleEnds_h0 w20_CycleEnds_o0 w20_CycleEnds_e0)) = some (.next y) ∧ ∃ (i : Nat) (v : WrldT), y = ((N : Int), (i : Int), v, ()) ∧ Pot v n' ∧ n' + i + 1 ≤ N ∧ IW v ∧ v.2.2.2.2.2.2.2.1.length ≤ 50 + i := by
    rw [wi64_id (n := (i : Int) + 1) (by omega) (by omega)]
    exact ⟨k, _, by omega, rfl, i + 1, a, rfl, P', by omega, I', by omega⟩
   refine .inl ?_
   rw [em, e]
   simp only [Option.bind_some, ef, Bool.not_true, cond_false, hx0]
   by_cases e0 : v.2.2.2.2.1 = 0
   ·have hw : v.2.2.2.2.2.1 = true := by
     cases hw : v.2.2.2.2.2.1 with
     | false => exact absurd ⟨e0, hw⟩ c
     | true => rfl
    have b0 : (v.2.2.2.2.1 == 0) = true := by rw [e0]; rfl
    simp only [b0, hw, cond_true, Bool.not_true, cond_false]
    exact next
   ·have b0 : (v.2.2.2.2.1 == 0) = false := beq_eq_false_iff_ne.2 e0
    simp only [b0, cond_false]
    exact next
 obtain ⟨l, e, rfl⟩ := key
 exact e
def bndW (w : WrldT) : Nat := (w.2.1.1.length / 2 + 4) * (17 * (w.2.1.1.length / 2 + 1) + 8) + w.2.2.2.1.2.2.1.length + 17 * (16 + 16 * w.2.2.1.length) + 100 + 2 * (lst w.2.1).length + w.2.1.2.1.length
theorem bndP {w : WrldT} (hw : w.2.1.1.length ≤ 160) : (w.2.1.1.length / 2 + 4) * (17 * (w.2.1.1.length / 2 + 1) + 8) ≤ 120000 :=
 Nat.le_trans (Nat.mul_le_mul (show w.2.1.1.length / 2 + 4 ≤ 84 by omega) (show 17 * (w.2.1.1.length / 2 + 1) + 8 ≤ 1385 by omega)) (by decide)
theorem bound20_eq {w : WrldT} (F : WF w) : r20_Bound (w, ()) = some ((bndW w : Int), ()) ∧ bndW w ≤ 200000 := by
 have hw := F.wl
 have hP := bndP hw
 have hr := F.q.rl
 have hm := F.q.g.ms.len
 have hs := F.p.f.n16
 have hl := lst_half F.p.f
 unfold bndW
 obtain ⟨k, ek⟩ : ∃ k, w.2.1.1.length / 2 = k := ⟨_, rfl⟩
 have hk : (w.2.1.1.length : Int).tdiv 2 = (k : Int) := by rw [Int.tdiv_eq_ediv_of_nonneg (by omega)]; omega
 rw [ek] at hP hl ⊢
 have hp : ((k : Int) + 1 + 3) * (17 * ((k : Int) + 1) + 8) = (((k + 4) * (17 * (k + 1) + 8) : Nat) : Int) := by
  rw [Int.natCast_mul]
  congr 1
 generalize (k + 4) * (17 * (k + 1) + 8) = Q at *
 refine ⟨?_, by omega⟩
 simp only [r20_Bound, r20_Bound_r, list_eq F.p.f, Option.bind_some, hk]
 rw [wi64_id (n := (k : Int)) (by omega) (by omega), wi64_id (n := (k : Int) + 1) (by omega) (by omega), wi64_id (n := (k : Int) + 1 + 3) (by omega) (by omega), wi64_id (n := 17 * ((k : Int) + 1)) (by omega) (by omega), wi64_id (n := 17 * ((k : Int) + 1) + 8) (by omega) (by omega), hp, wi64_id (n := (Q : Int)) (by omega) (by omega),
  wi64_id (n := (Q : Int) + (w.2.2.2.1.2.2.1.length : Int)) (by omega) (by omega), wi64_id (n := 16 * (w.2.2.1.length : Int)) (by omega) (by omega), wi64_id (n := 16 + 16 * (w.2.2.1.length : Int)) (by omega) (by omega), wi64_id (n := 17 * (16 + 16 * (w.2.2.1.length : Int))) (by omega) (by omega), wi64_id (n := (Q : Int) + (w.2.2.2.1.2.2.1.length : Int) + 17 * (16 + 16 * (w.2.2.1.length : Int))) (by omega) (by omega),
  wi64_id (n := (Q : Int) + (w.2.2.2.1.2.2.1.length : Int) + 17 * (16 + 16 * (w.2.2.1.length : Int)) + 100) (by omega) (by omega), wi64_id (n := 2 * ((lst w.2.1).length : Int)) (by omega) (by omega), wi64_id (n := (Q : Int) + (w.2.2.2.1.2.2.1.length : Int) + 17 * (16 + 16 * (w.2.2.1.length : Int)) + 100 + 2 * ((lst w.2.1).length : Int)) (by omega) (by omega), wi64_id (by omega) (by omega)]
 refine congrArg (fun z => some (z, ())) ?_
 omega
theorem pot_first {w : WrldT} (F : WF w) (I : IW w) : Pot w (2 * bndW w + 999) := by
 have hw := F.wl
 have hm : 1 ≤ w.2.2.1.length := by
  have := I.ml
  have := I.hc.2.2.1
  omega
 have hk : 16 ≤ w.2.1.1.length / 2 := by
  have := F.p.f.n1
  have := F.p.f.len
  omega
 have hW : wantN w ≤ cycN (w.2.1.1.length / 2) := by
  unfold wantN
  split
  ·exact Nat.le_refl _
  ·exact Nat.zero_le _
 have hl := lst_half F.p.f
 unfold cycN at hW
 unfold bndW
 obtain ⟨k, ek⟩ : ∃ k, w.2.1.1.length / 2 = k := ⟨_, rfl⟩
 rw [ek] at hW hk hl ⊢
 have h1 : (k + 4) * (17 * (k + 1) + 8) = (k + 3) * (17 * k + 8) + 34 * k + 76 := by
  rw [show 17 * (k + 1) + 8 = 17 * k + 8 + 17 by omega, Nat.mul_add (k + 4), show (k + 4) * (17 * k + 8) = (k + 3) * (17 * k + 8) + (17 * k + 8) from Nat.succ_mul (k + 3) _]
  omega
 rw [h1]
 rcases (show w.2.2.2.2.1 = 0 ∨ w.2.2.2.2.1 = 1 ∨ w.2.2.2.2.1 = 2 by have := I.ph; omega) with e | e | e
 ·exact .inl ⟨e, by omega⟩
 ·obtain ⟨mp, -⟩ := I.mkw e
  have hp := pot_le F.p.f (S := fun _ => false) pn_none.symm mp
  have hn := nit_le mp
  have h4 : ((lst w.2.1).length + 3) * (17 * (lst w.2.1).length + 8) ≤ (k + 3) * (17 * k + 8) := Nat.mul_le_mul (by omega) (by omega)
  unfold bnd at hp
  exact .inr (.inl ⟨e, w.2.1, fun _ => false, F.p.f, pn_none.symm, by omega⟩)
 ·have := dcnt_le F.p
  exact .inr (.inr ⟨e, by omega⟩)
theorem cycleEnds_pure : ∀ x, Good (.cons cWrld .nil) x → w20_CycleEnds x = some (true, ()) := by
 rintro ⟨(w : WrldT), ⟨⟩⟩ ⟨gw, -⟩
 have gw : Good cWrld w := gw
 obtain ⟨b, eb, hb⟩ := fits20_eq gw
 simp only [w20_CycleEnds, w20_CycleEnds_r, awake20, eb, Option.bind_some, Bool.not_true, cond_false]
 cases b with
 | false => rfl
 | true =>
  obtain ⟨F, hf⟩ := hb rfl
  have I := IW.of F hf
  obtain ⟨eB, hB⟩ := bound20_eq F
  simp only [Bool.not_true, cond_false, apart_eq F.p.f, Option.bind_some]
  cases apB w.2.1 with
  | false => rfl
  | true =>
   simp only [Bool.not_true, cond_false, Bool.cond_decide]
   by_cases c1 : w.2.2.2.2.2.2.1 > 1099511627776
   ·rw [if_pos c1]
   rw [if_neg c1, eB]
   simp only [Option.bind_some]
   rw [wi64_id (n := 2 * (bndW w : Int)) (by omega) (by omega), wi64_id (n := 2 * (bndW w : Int) + 1000) (by omega) (by omega)]
   have e := ends20_l0 I (N := 2 * bndW w + 1000) (by omega) (pot_first F I) (by omega) F.rp
   rw [show ((2 * bndW w + 1000 : Nat) : Int) = 2 * (bndW w : Int) + 1000 by omega] at e
   rw [e]
   rfl
end Go.Proofs.YtkjpakaidjpjgaaGreatDoor.Den
