/- Pure laws. -/
import Derived.Test.YtkjpakaidjpjgaaGreatDoorDenP4
/- The pure law CycleSums. -/
namespace Go.Proofs.YtkjpakaidjpjgaaGreatDoor.Den
open Go
set_option linter.unusedVariables false
set_option linter.unusedSimpArgs false
set_option maxRecDepth 100000
theorem sums_l0 (u : Int) (w : WrldT) (r : Conf) (hl : w.2.1.2.1.length ≤ 16) : w20_CycleSums_l0 (u, 0, 0, w, r, ()) = some (.out (u, (dcnt w.2.1 : Int), w, r, ())) := by
 unfold w20_CycleSums_l0
 refine iterL_run w.2.1.2.1.length (fun i => (u, (((w.2.1.2.1.take i).countP fun s => decide (s.1 = 2) : Nat) : Int), (i : Int), w, r, ())) (fun i hi => ?_) ?_ (by omega) rfl
 ·have h1 : ((w.2.1.2.1.take i).countP fun s => decide (s.1 = 2)) ≤ (w.2.1.2.1.take i).length := List.countP_le_length
  rw [List.length_take] at h1
  have h2 := dcnt_take w.2.1.2.1 i hi
  simp only [w20_CycleSums_s0, w20_CycleSums_s0r, Bool.cond_decide, Int.toNat_natCast, ibeq, get_d _ _ _ hi]
  rw [if_pos (show (i : Int) < (w.2.1.2.1.length : Int) by omega), if_pos (show (0 : Int) ≤ (i : Int) by omega), if_pos (show (i : Int) < (w.2.1.2.1.length : Int) by omega), wi64_id (n := (i : Int) + 1) (by omega) (by omega)]
  by_cases e : (w.2.1.2.1[i] : Span).1 = 2
  ·rw [if_pos e] at h2 ⊢
   rw [wi64_id (by omega) (by omega), h2]
   rfl
  ·rw [if_neg e] at h2 ⊢
   rw [h2]
   rfl
 ·simp only [w20_CycleSums_s0, w20_CycleSums_s0r, Bool.cond_decide]
  rw [if_neg (show ¬ ((w.2.1.2.1.length : Int) < (w.2.1.2.1.length : Int)) by omega), List.take_of_length_le (Nat.le_refl _)]
  rfl
theorem sums_l2 {h : Heap} (u : Int) (r : Conf) {w : WrldT} (hm : w.2.2.1.length ≤ 1000) (h4 : Row4 (cachesW w.2.2.1)) (R : SwR h w.2.1) (D : DirtP w.2.1) (e : w.2.2.2.2.1 = 2) :
  ∃ v : WrldT, w20_CycleSums_l2 (u, 0, w, r, ()) = some (.out (u, v, r, ())) ∧ v.2.2.2.2.1 = 0 ∧ SwR h v.2.1 ∧ usN v.2.1 v.2.1.2.1.length = wsum h ((lst h).filter (bk h)) := by
 have key : ∃ l, w20_CycleSums_l2 (u, 0, w, r, ()) = some l ∧ ∃ v : WrldT, l = .out (u, v, r, ()) ∧ v.2.2.2.2.1 = 0 ∧ SwR h v.2.1 ∧ usN v.2.1 v.2.1.2.1.length = wsum h ((lst h).filter (bk h)) := by
  unfold w20_CycleSums_l2
  have hd := dcnt_le R.hp
  refine iterL_rule (fun n x => ∃ (i : Nat) (v : WrldT), x = (u, (i : Int), v, r, ()) ∧ n = 17 - i ∧ v.2.2.1 = w.2.2.1 ∧ SwR h v.2.1 ∧ DirtP v.2.1 ∧ ((v.2.2.2.2.1 = 2 ∧ dcnt v.2.1 + i ≤ 16) ∨ (v.2.2.2.2.1 = 0 ∧ dcnt v.2.1 = 0 ∧ i ≤ 17))) ?_ _ 17 _ (by omega) ⟨0, w, rfl, rfl, rfl, R, D, .inl ⟨e, by omega⟩⟩
  rintro n x ⟨i, v, rfl, rfl, hms, R, D, hv⟩
  simp only [w20_CycleSums_s2, w20_CycleSums_s2r, Bool.cond_decide, ibeq]
  rcases hv with ⟨e, hi⟩ | ⟨e, hz, hi⟩
  ·rw [if_pos (show (i : Int) ≤ 16 by omega), if_pos e, sweeper_eq R.hp (by rw [hms]; exact hm) (by rw [hms]; exact h4)]
   simp only [Option.bind_some]
   rw [wi64_id (n := (i : Int) + 1) (by omega) (by omega)]
   obtain ⟨R', D'⟩ := swp_R R D (cachesW v.2.2.1)
   unfold swpW
   rw [if_pos e]
   by_cases hd : dcnt (swpH v.2.1 (cachesW v.2.2.1)) = 0
   ·rw [if_pos hd]
    exact .inl ⟨17 - (i + 1), _, by omega, rfl, i + 1, _, rfl, rfl, hms, R', D', .inr ⟨rfl, hd, by omega⟩⟩
   ·rw [if_neg hd]
    have h3 := dcnt_swp R.hp _ hd
    exact .inl ⟨17 - (i + 1), _, by omega, rfl, i + 1, _, rfl, rfl, hms, R', D', .inl ⟨e, by show dcnt (swpH v.2.1 (cachesW v.2.2.1)) + (i + 1) ≤ 16; omega⟩⟩
  ·refine .inr ⟨_, ?_, v, rfl, e, R, swept_used R D hz⟩
   by_cases c : (i : Int) ≤ 16
   ·rw [if_pos c, if_neg (by omega)]
   ·rw [if_neg c]
 obtain ⟨l, e, v, rfl, h1, h2, h3⟩ := key
 exact ⟨v, e, h1, h2, h3⟩
theorem wsum_filt (h : Heap) (P : Int → Bool) : ∀ l, wsum h (l.filter P) ≤ wsum h l
 | [] => Int.le_refl _
 | a :: l => by
  have h1 := wsum_filt h P l
  have h2 := (cw_le (og h a).1.2.2.1).1
  have e : wsum h (a :: l) = cw (og h a).1.2.2.1 + wsum h l := by unfold wsum; simp
  rw [List.filter_cons]
  split
  ·have e2 : wsum h (a :: l.filter P) = cw (og h a).1.2.2.1 + wsum h (l.filter P) := by unfold wsum; simp
   omega
  ·omega
theorem us1_le (s : Span) : us1 s ≤ 32 := by
 unfold us1
 split
 ·omega
 ·have h2 := pcn_le 32 s.2.2.1.toNat
  rcases class_cases s.2.1 with e | e | e | e | e
  ·rw [e, show cb 0 = 16 from rfl, show cw 0 = 2 from rfl]; omega
  ·rw [e, show cb 1 = 8 from rfl, show cw 1 = 4 from rfl]; omega
  ·rw [e, show cb 2 = 4 from rfl, show cw 2 = 8 from rfl]; omega
  ·rw [e, show cb 3 = 2 from rfl, show cw 3 = 16 from rfl]; omega
  ·rw [cw_out e, Int.mul_zero]; omega
theorem usN_le (h : Heap) : ∀ n : Nat, usN h n ≤ 32 * (n : Int)
 | 0 => Int.le_refl _
 | n + 1 => by
  have h1 := usN_le h n
  have h2 := us1_le (h.2.1.getD n sz)
  show usN h n + us1 (h.2.1.getD n sz) ≤ _
  omega
theorem chk_fil {h : Heap} (c : chkH h = 0) : filledB h = true := by
 unfold chkH at c
 split at c
 ·split at c
  ·assumption
  ·omega
 ·omega
theorem dirt_beg {h : Heap} (q : HP h) (hz : dcnt h = 0) : DirtP (begS h) := by
 intro b ho _
 have hd := of_decide_eq_true (og_ok ho).1
 have hr := fndB_rng (og_ok ho).1
 have hl : (begS h).2.1.length = h.2.1.length := by show (h.2.1.map dirtS).length = _; rw [List.length_map]
 have hlt : (b / 32).toNat < h.2.1.length := by omega
 have e : spanOf (begS h) b = dirtS h.2.1[(b / 32).toNat] := by
  unfold spanOf
  show (h.2.1.map dirtS).getD (b / 32).toNat sz = _
  rw [get_d _ _ _ (by rw [List.length_map]; exact hlt), List.getElem_map]
 have hm : h.2.1[(b / 32).toNat] ∈ h.2.1 := List.getElem_mem _
 have h0 : (spanOf (begS h) b).1 ≠ 0 := hd.2.2.1
 rw [e] at h0 ⊢
 have hne : (h.2.1[(b / 32).toNat] : Span).1 ≠ 0 := fun h1 => by
  unfold dirtS at h0
  rw [if_neg (by rw [h1]; decide)] at h0
  exact h0 h1
 rcases (right_use (q.f.right _ hm) hne).1 with h1 | h1
 ·unfold dirtS
  rw [if_pos h1]
 ·unfold dcnt at hz
  rw [List.countP_eq_zero] at hz
  exact absurd (decide_eq_true h1) (hz _ hm)
theorem mkr1 {w : WrldT} (e : w.2.2.2.2.1 = 1) : (∃ a, mkrW w = (a, 1, ())) ∨ ∃ a : WrldT, mkrW w = (a, 4, ()) ∧ a.2.1 = begS w.2.1 ∧ a.2.2.1 = w.2.2.1 ∧ a.2.2.2.2.1 = 2 := by
 unfold mkrW
 rw [if_neg (by omega), if_pos e]
 by_cases c : (stp w.2.1 w.2.2.2.1).2.2.1 = true
 ·rw [if_pos c]
  exact .inr ⟨_, rfl, rfl, rfl, rfl⟩
 ·rw [if_neg c]
  exact .inl ⟨_, rfl⟩
theorem cycleSums_pure : ∀ x, Good (.cons cWrld .nil) x → w20_CycleSums x = some (true, ()) := by
 rintro ⟨(w : WrldT), ⟨⟩⟩ ⟨gw, -⟩
 have gw : Good cWrld w := gw
 obtain ⟨b, eb, hb⟩ := fits20_eq gw
 simp only [w20_CycleSums, w20_CycleSums_r, awake20, eb, Option.bind_some, Bool.not_true, cond_false]
 cases b with
 | false => rfl
 | true =>
  obtain ⟨W, hf⟩ := hb rfl
  have q := W.p
  have f := q.f
  simp only [Bool.not_true, cond_false, check9_eq (hp_good q), Option.bind_some, ibne, Bool.cond_decide]
  by_cases c0 : ¬ chkH w.2.1 = 0
  ·rw [if_pos c0]
  rw [if_neg c0]
  by_cases c1 : ¬ w.2.2.2.2.1 = 1
  ·rw [if_pos c1]
  rw [if_neg c1]
  have c0 : chkH w.2.1 = 0 := Classical.not_not.1 c0
  have c1 : w.2.2.2.2.1 = 1 := Classical.not_not.1 c1
  have F := filP_of f (chk_fil c0)
  have hU := used_wsum q F
  have hBU := wsum_filt w.2.1 (bk w.2.1) (lst w.2.1)
  have hB := wsum_nn w.2.1 ((lst w.2.1).filter (bk w.2.1))
  have hu := usN_le w.2.1 w.2.1.2.1.length
  have hn := f.n16
  have hl := f.len
  obtain ⟨U, hUd⟩ : ∃ U, usN w.2.1 w.2.1.2.1.length = U := ⟨_, rfl⟩
  obtain ⟨B, hBd⟩ : ∃ B, wsum w.2.1 ((lst w.2.1).filter (bk w.2.1)) = B := ⟨_, rfl⟩
  obtain ⟨H, hHd⟩ : ∃ H, wsum w.2.1 (heldO w) = H := ⟨_, rfl⟩
  have et : cycle_Tell (w, ()) = some ((w.2.2.2.2.2.2.1, (w.2.1.1.length : Int) - U, B, B - H, U - B, ()), ()) := by
   rw [tell_eq W.q.g.ms W.q.hv q]
   unfold tellW
   rw [hUd, hBd, hHd]
  rw [hUd] at hU hu
  rw [hBd] at hBU hB
  have e1 : wi64 (wi64 ((w.2.1.1.length : Int) - U + B) + (U - B)) = (w.2.1.1.length : Int) := by
   rw [wi64_id (n := (w.2.1.1.length : Int) - U + B) (by omega) (by omega), wi64_id (by omega) (by omega)]
   omega
  have n1 : ¬ ¬ (w.2.1.1.length : Int) = (w.2.1.1.length : Int) := fun h => h rfl
  have n2 : ¬ B < 0 := by omega
  have n3 : ¬ U - B < 0 := by omega
  have n4 : ¬ (w.2.1.1.length : Int) - U < 0 := by omega
  have n5 : ¬ ¬ w.2.2.2.2.2.2.1 = w.2.2.2.2.2.2.1 := fun h => h rfl
  simp only [et, Option.bind_some, e1, if_neg n2, if_neg n3, if_neg n4, used7_eq f q.fr, hUd, sums_l0 U w _ f.n16, not_true, if_false]
  by_cases c2 : (dcnt w.2.1 : Int) > 0
  ·rw [if_pos c2]
  rw [if_neg c2]
  have hz : dcnt w.2.1 = 0 := by omega
  have k1 : w20_CycleSums_l1 (U, 0, w, (w.2.2.2.2.2.2.1, (w.2.1.1.length : Int) - U, B, B - H, U - B, ()), ()) = some (.ret (true, ())) ∨ ∃ a : WrldT, w20_CycleSums_l1 (U, 0, w, (w.2.2.2.2.2.2.1, (w.2.1.1.length : Int) - U, B, B - H, U - B, ()), ()) = some (.out (U, a, (w.2.2.2.2.2.2.1, (w.2.1.1.length : Int) - U, B, B - H, U - B, ()), ())) ∧ a.2.1 = begS w.2.1 ∧ a.2.2.1 = w.2.2.1 ∧ a.2.2.2.2.1 = 2 := by
   have l0 : (0 : Int) ≤ 16 := by decide
   rcases mkr1 c1 with ⟨a, ea⟩ | ⟨a, ea, h1, h2, h3⟩
   ·refine .inl ?_
    unfold w20_CycleSums_l1
    refine iterL_run 0 (fun _ => (U, 0, w, (w.2.2.2.2.2.2.1, (w.2.1.1.length : Int) - U, B, B - H, U - B, ()), ())) (fun i hi => absurd hi (by omega)) ?_ (by omega) rfl
    simp only [w20_CycleSums_s1, w20_CycleSums_s1r, W.marker, ea, Option.bind_some, Bool.cond_decide, ibeq, if_pos l0]
    rfl
   ·refine .inr ⟨a, ?_, h1, h2, h3⟩
    unfold w20_CycleSums_l1
    refine iterL_run 0 (fun _ => (U, 0, w, (w.2.2.2.2.2.2.1, (w.2.1.1.length : Int) - U, B, B - H, U - B, ()), ())) (fun i hi => absurd hi (by omega)) ?_ (by omega) rfl
    simp only [w20_CycleSums_s1, w20_CycleSums_s1r, W.marker, ea, Option.bind_some, Bool.cond_decide, ibeq, if_pos l0]
    rfl
  rcases k1 with k1 | ⟨a, k1, h1, h2, h3⟩
  ·simp only [k1, Option.bind_some]
  ·have R : SwR w.2.1 a.2.1 := by rw [h1]; exact beg_R q F
   have D : DirtP a.2.1 := by rw [h1]; exact dirt_beg q hz
   obtain ⟨v, e2, v1, v2, v3⟩ := sums_l2 U (w.2.2.2.2.2.2.1, (w.2.1.1.length : Int) - U, B, B - H, U - B, ()) (w := a) (by rw [h2]; have := W.q.g.ms.len; omega) (by rw [h2]; exact W.h4) R D h3
   rw [hBd] at v3
   have n6 : ¬ ¬ a.2.2.2.2.1 = 2 := fun h => h h3
   have e3 : wi64 (U - B) = U - B := wi64_id (by omega) (by omega)
   simp only [k1, Option.bind_some, h3, not_true, if_false, e2, v1, used7_eq v2.hp.f v2.hp.fr, v3, e3, ibeq, Bool.cond_decide, if_true, decide_true]
end Go.Proofs.YtkjpakaidjpjgaaGreatDoor.Den
