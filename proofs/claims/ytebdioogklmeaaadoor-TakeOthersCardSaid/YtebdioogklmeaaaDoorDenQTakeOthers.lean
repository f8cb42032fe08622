/- The pure law TakeOthers. -/
import Derived.Test.YtebdioogklmeaaaDoorDenTd
namespace Go.Proofs.YtebdioogklmeaaaDoor.Den
open Go
set_option linter.unusedVariables false
set_option linter.unusedSimpArgs false
set_option maxRecDepth 100000

theorem others_l0 {c c' : List (List Int)} (hl : c.length ≤ 1000) (he : c'.length = c.length) (m : Nat) (n a : Int) (ha : 0 ≤ a ∧ a ≤ 100000) (ok : Bool) (h g : Heap)
    (hx : ∀ i j, i < c.length → j < 4 → ent c' i j = ent c i j ∨ (ok = true ∧ i = m ∧ ent c' i j = a / 32)) {i : Nat} (hi : i < c.length) :
    flotsamlaw11_TakeOthers_l0 (c, (m : Int), n, c', a, ok, (i : Int), 0, h, g, ()) = some (.out (c, (m : Int), n, c', a, ok, (i : Int), h, g, ())) := by
  unfold flotsamlaw11_TakeOthers_l0
  refine iterL_run 4 (fun j => (c, (m : Int), n, c', a, ok, (i : Int), (j : Int), h, g, ())) (fun j hj => ?_) ?_ (by omega) rfl
  · simp only [flotsamlaw11_TakeOthers_s0, flotsamlaw11_TakeOthers_s0r, Bool.cond_decide, ibne, Int.toNat_natCast]
    have e1 : (c'.getD i (List.replicate 4 0)).getD j 0 = ent c' i j := rfl
    have e2 : (c.getD i (List.replicate 4 0)).getD j 0 = ent c i j := rfl
    simp only [e1, e2]
    have ed : wi64 (a.tdiv 32) = a / 32 := by rw [Int.tdiv_eq_ediv_of_nonneg ha.1, wi64_id (by omega) (by omega)]
    rw [if_pos (by omega), if_pos (by omega), if_pos (by omega), if_pos (by omega), if_pos (by omega), if_pos (by omega), if_pos (by omega), if_pos (by omega), if_pos (by omega)]
    rcases hx i j hi hj with e | ⟨rfl, rfl, e⟩
    · rw [if_neg (show ¬ ¬ ent c' i j = ent c i j from fun h => h e), wi64_id (by omega) (by omega)]; rfl
    · by_cases e3 : ent c' i j = ent c i j
      · rw [if_neg (show ¬ ¬ ent c' i j = ent c i j from fun h => h e3), wi64_id (by omega) (by omega)]; rfl
      · rw [if_pos (show ¬ ent c' i j = ent c i j from e3), Bool.not_true, cond_false, if_neg (show ¬ ¬ (i : Int) = i from fun h => h rfl), if_pos (by omega), if_pos (by omega), if_pos (by omega), if_pos (by omega), ed,
          if_neg (show ¬ ¬ ent c' i j = a / 32 from fun h => h e), wi64_id (by omega) (by omega)]; rfl
  · simp only [flotsamlaw11_TakeOthers_s0, flotsamlaw11_TakeOthers_s0r, Bool.cond_decide]
    rw [if_neg (by omega)]
theorem others_l1 {c c' : List (List Int)} (hl : c.length ≤ 1000) (he : c'.length = c.length) (m : Nat) (n a : Int) (ha : 0 ≤ a ∧ a ≤ 100000) (ok : Bool) (h g : Heap)
    (hx : ∀ i j, i < c.length → j < 4 → ent c' i j = ent c i j ∨ (ok = true ∧ i = m ∧ ent c' i j = a / 32)) :
    flotsamlaw11_TakeOthers_l1 (c, (m : Int), n, c', a, ok, 0, h, g, ()) = some (.out ((m : Int), n, c', a, ok, h, g, ())) := by
  unfold flotsamlaw11_TakeOthers_l1
  refine iterL_run c.length (fun i => (c, (m : Int), n, c', a, ok, (i : Int), h, g, ())) (fun i hi => ?_) ?_ (by omega) rfl
  · simp only [flotsamlaw11_TakeOthers_s1, flotsamlaw11_TakeOthers_s1r, Bool.cond_decide]
    rw [if_pos (by omega), others_l0 hl he m n a ha ok h g hx hi, Option.bind_some]
    dsimp only
    rw [wi64_id (by omega) (by omega)]; rfl
  · simp only [flotsamlaw11_TakeOthers_s1, flotsamlaw11_TakeOthers_s1r, Bool.cond_decide]
    rw [if_neg (by omega)]
theorem others_l2 {h g : Heap} (hl : h.1.length ≤ 1000) (he : g.1.length = h.1.length) (a u : Int) (ha : 0 ≤ a ∧ a ≤ 100000) (hx : ∀ j : Nat, j < h.1.length → h.1.getD j 0 = g.1.getD j 0 ∨ (a ≤ j ∧ (j : Int) < a + 16)) :
    flotsamlaw11_TakeOthers_l2 (a, u, 0, h, g, ()) = some (.out (u, g, ())) := by
  unfold flotsamlaw11_TakeOthers_l2
  refine iterL_run h.1.length (fun i => (a, u, (i : Int), h, g, ())) (fun i hi => ?_) ?_ (by omega) rfl
  · simp only [flotsamlaw11_TakeOthers_s2, flotsamlaw11_TakeOthers_s2r, Bool.cond_decide, ibne, Int.toNat_natCast]
    rw [if_pos (by omega), if_pos (by omega), if_pos (by omega), if_pos (by omega), if_pos (by omega)]
    by_cases e : h.1.getD i 0 = g.1.getD i 0
    · rw [if_neg (by simpa using e), wi64_id (by omega) (by omega)]; rfl
    · have := (hx i hi).resolve_left e
      rw [if_pos e, if_neg (by omega), wi64_id (n := a + 16) (by omega) (by omega), if_neg (by omega), wi64_id (by omega) (by omega)]; rfl
  · simp only [flotsamlaw11_TakeOthers_s2, flotsamlaw11_TakeOthers_s2r, Bool.cond_decide]
    rw [if_neg (by omega)]
theorem takeOthers_pure : ∀ x, Good (.cons cHeap (.cons (.sl (.arr 4 cI)) (.cons cI (.cons cI .nil)))) x → flotsamlaw11_TakeOthers x = some (true, ()) := by
  rintro ⟨(h : Heap), (c : List (List Int)), (m : Int), (n : Int), ⟨⟩⟩ ⟨gh, gc, gm, gn, _⟩
  have gh : Good cHeap h := gh
  have h4 := good_c4 gc
  classical
  simp only [flotsamlaw11_TakeOthers, flotsamlaw11_TakeOthers_r, awake11, Option.bind_some, Bool.not_true, cond_false, right_eq11 gh]
  by_cases hr : formB h = true ∧ c.length ≤ 10 ∧ RightP h c ∧ 0 ≤ m ∧ m < c.length
  · obtain ⟨hb, hl, r, m0, m1⟩ := hr
    rw [decide_eq_true (⟨hb, hl, r, m0, m1⟩ : formB h = true ∧ c.length ≤ 10 ∧ RightP h c ∧ 0 ≤ m ∧ m < c.length)]
    have q := hp_of gh hb
    have hn := q.f.n16
    have hlen := q.f.len
    have hu := used7_eq q.f q.fr
    obtain ⟨mm, rfl⟩ := Int.eq_ofNat_of_zero_le m0
    have hl' : c.length ≤ 1000 := by omega
    have hmm : mm < c.length := by omega
    rcases take_spec q h4 hl' r hmm n with ⟨e1, e2, e3⟩ | ⟨k, p, i, t, e1, e2, e3⟩
    · have o1 := others_l1 hl' rfl mm n 0 ⟨by omega, by omega⟩ false h h (fun i j _ _ => .inl rfl)
      simp only [e1, Option.bind_some, ibne, Bool.cond_decide, o1, hu, Bool.not_true, cond_false, Bool.not_false, cond_true, same7_self q.f]
      rw [if_neg (show ¬ ¬ True from fun h => h trivial)]
    · obtain ⟨a1, a2, a3, w2, w16⟩ := taken_at t
      obtain ⟨b1, b2, b3⟩ := taken_word t
      have hq := taken_hp t
      have hu2 := used7_eq hq.f hq.fr
      have hus := taken_used q t
      have hur := usN_rng h h.2.1.length
      have ha : 0 ≤ layA (withP h p k) p i ∧ layA (withP h p k) p i ≤ 100000 := by omega
      have o1 := others_l1 hl' (setC_len c mm k p) mm n _ ha true h (laid (withP h p k) p i n) (fun i' j hi hj => by
        rw [ent_setC h4 hmm t.k4 p hi hj]
        by_cases e : i' = mm ∧ j = k
        · rw [if_pos e]
          exact .inr ⟨rfl, e.1, a1.symm⟩
        · rw [if_neg e]
          exact .inl rfl)
      have o2 := others_l2 (h := h) (g := laid (withP h p k) p i n) (by omega) b1 (layA (withP h p k) p i) (usN h h.2.1.length) ha (fun j hj => by
        by_cases e : (layA (withP h p k) p i) ≤ j ∧ (j : Int) < layA (withP h p k) p i + cw k
        · exact .inr ⟨e.1, by omega⟩
        · exact .inl (b3 j e).symm)
      unfold usedN at hus
      simp only [e1, takeR, Option.bind_some, ibne, Bool.cond_decide, o1, o2, hu, hu2, Bool.not_true, cond_false, cond_true, setC_len]
      rw [if_neg (show ¬ ¬ True from fun h => h trivial)]
      rw [hus, if_pos (by omega), wi64_id (by omega) (by omega), decide_eq_true (by omega)]
  · rw [decide_eq_false hr]
    rfl
end Go.Proofs.YtebdioogklmeaaaDoor.Den
