/- The pure law TakeOwn. -/
import Derived.Test.YtebdioogklmeaaaDoorDenTd
import Derived.Test.YtebdioogklmeaaaDoorDenPg
namespace Go.Proofs.YtebdioogklmeaaaDoor.Den
open Go
set_option linter.unusedVariables false
set_option linter.unusedSimpArgs false
set_option maxRecDepth 100000

theorem own_l0 (L : List (Int × Int × Unit)) (c : List (List Int)) (i a : Int) (h : Heap) {got : List Int} (hl : got.length ≤ 1000) (hn : a ∉ got) :
    flotsamlaw11_TakeOwn_l0 (L, c, i, a, 0, h, got, ()) = some (.out (L, c, i, a, h, got, ())) := by
  unfold flotsamlaw11_TakeOwn_l0
  refine iterL_run got.length (fun j => (L, c, i, a, (j : Int), h, got, ())) (fun j hj => ?_) ?_ (by omega) rfl
  · simp only [flotsamlaw11_TakeOwn_s0, flotsamlaw11_TakeOwn_s0r, Bool.cond_decide, ibeq, Int.toNat_natCast]
    rw [if_pos (by omega), if_pos (by omega), if_pos (by omega), get_d _ _ _ hj, if_neg (fun e => hn (by rw [← e]; exact List.getElem_mem hj)), wi64_id (by omega) (by omega)]; rfl
  · simp only [flotsamlaw11_TakeOwn_s0, flotsamlaw11_TakeOwn_s0r, Bool.cond_decide]
    rw [if_neg (by omega)]
def tz : Int × Int × Unit := (0, 0, ())
theorem taken_inv {N : Nat} {h : Heap} {got : List Int} (v : Inv N h got) {c : List (List Int)} {m : Nat} {n : Int} {k : Nat} {p : Int} {i : Nat} (t : TakeP h c m n k p i) :
    Inv N (laid (withP h p k) p i n) (got ++ [layA (withP h p k) p i]) := by
  have hib : (i : Int) < cb (spanAt (withP h p k) p).2.1 := by rw [t.cl]; exact t.ib
  have v' : Inv N (withP h p k) got := by
    unfold withP
    split
    · rename_i w
      exact (inv_open v ⟨t.ip, by omega, by have := t.k4; omega, w⟩).1
    · exact v
  exact (inv_lay v' t.ly t.lo hib).1
/-- The state behind so many turns. -/
structure OwnP (N M : Nat) (h : Heap) (c : List (List Int)) (got : List Int) (i : Nat) : Prop where
  v : Inv N h got
  r : RightP h c
  c4 : C4 c
  len : c.length = M
  got : got.length ≤ i
open Classical in
theorem own_step {N M : Nat} (hM : 1 ≤ M) (hM8 : M ≤ 8) {L : List (Int × Int × Unit)} (hL : L.length ≤ 80) {h : Heap} {c : List (List Int)} {got : List Int} {i : Nat} (o : OwnP N M h c got i) (hi : i < L.length) :
    ∃ h' c' got', flotsamlaw11_TakeOwn_s1 (L, c, (i : Int), h, got, ()) = some (.next (L, c', ((i + 1 : Nat) : Int), h', got', ())) ∧ OwnP N M h' c' got' (i + 1) := by
  obtain ⟨v, r, h4, hlen, hg⟩ := o
  have q := v.hp
  have hn16 := q.f.n16
  simp only [flotsamlaw11_TakeOwn_s1, flotsamlaw11_TakeOwn_s1r, Bool.cond_decide, ibeq, ibne, Int.toNat_natCast]
  simp only [show ((0 : Int), (0 : Int), ()) = tz from rfl]
  rw [if_pos (by omega), if_pos (by omega), if_pos (by omega), wi64_id (n := (i : Int) + 1) (by omega) (by omega), show (i : Int) + 1 = ((i + 1 : Nat) : Int) by omega]
  by_cases h0 : (L.getD i tz).1 < 0
  · rw [if_pos h0]
    exact ⟨h, c, got, rfl, v, r, h4, hlen, by omega⟩
  rw [if_neg h0, if_pos (by omega), if_pos (by omega), if_neg (by omega), if_pos (by omega), if_pos (by omega)]
  obtain ⟨m, em, hm⟩ : ∃ m : Nat, (L.getD i tz).1.tmod (c.length : Int) = (m : Int) ∧ m < c.length := by
    rw [Int.tmod_eq_emod_of_nonneg (by omega)]
    have h1 := Int.emod_nonneg (L.getD i tz).1 (show (c.length : Int) ≠ 0 by omega)
    have h2 := Int.emod_lt_of_pos (L.getD i tz).1 (show (0 : Int) < c.length by omega)
    exact ⟨((L.getD i tz).1 % (c.length : Int)).toNat, by omega, by omega⟩
  simp only [em, Int.toNat_natCast]
  rcases take_spec q h4 (show c.length ≤ 1000 by omega) r hm (L.getD i tz).2.1 with ⟨e1, e2, e3⟩ | ⟨k, p, j, t, e1, e2, e3⟩
  · rw [e1, Option.bind_some]
    exact ⟨h, c, got, rfl, v, r, h4, hlen, by omega⟩
  · have hk := t.k4
    have hq := taken_hp t
    have hr' := taken_right h4 r hm t
    have v' := taken_inv v t
    obtain ⟨a1, a2, a3, w2, w16⟩ := taken_at t
    obtain ⟨b1, b2, b3⟩ := taken_word t
    have hlen' := (setC_len c m k p).trans hlen
    have hn16' := hq.f.n16
    have hnot : layA (withP h p k) p j ∉ got := fun hmem => by
      have := v'.nd
      rw [List.nodup_append] at this
      exact this.2.2 _ hmem _ (by simp) rfl
    have ee : ent (setC c m k p) m k = p := by rw [ent_setC h4 hm hk p hm hk, if_pos ⟨rfl, rfl⟩]
    have hw := hword_rng (show (0 : Int) ≤ k by omega) (show (k : Int) ≤ 3 by omega) t.n0 t.n1 (withP h p k).2.2.1
    have hwd := hget_word (show (0 : Int) ≤ k by omega) (show (k : Int) ≤ 3 by omega) t.n0 t.n1 (withP h p k).2.2.1
    have ed : wi64 ((layA (withP h p k) p j).tdiv 32) = p := by
      have := q.f.len
      rw [Int.tdiv_eq_ediv_of_nonneg a2, wi64_id (by omega) (by omega), a1]
    refine ⟨laid (withP h p k) p j (L.getD i tz).2.1, setC c m k p, got ++ [layA (withP h p k) p j], ?_, v', hr', setC_c4 h4 hm k p, hlen', by rw [List.length_append]; simp; omega⟩
    rw [e1, Option.bind_some]
    have e1' : ent (setC c m k p) m k = ((setC c m k p).getD m (List.replicate 4 0)).getD k 0 := rfl
    rw [e1'] at ee
    simp only [takeR, Bool.not_true, cond_false, form7_hp hq, right11_eq (show (setC c m k p).length ≤ 1000 by omega) hn16', decide_eq_true hr', Option.bind_some, b2, headerGet2_eq (show 0 ≤ hword k (withP h p k).2.2.1 (L.getD i tz).2.1 by omega), hwd, Int.toNat_natCast, ee, ed, setC_len,
      own_l0 L (setC c m k p) (i : Int) _ (laid (withP h p k) p j (L.getD i tz).2.1) (show got.length ≤ 1000 by omega) hnot]
    rw [if_neg (show ¬ (c.length : Int) ≤ m by omega), if_neg (show ¬ layA (withP h p k) p j < 0 by omega), b1, if_neg (show ¬ layA (withP h p k) p j ≥ (h.1.length : Int) by omega), if_pos a2, if_pos (show layA (withP h p k) p j < (h.1.length : Int) by omega), if_pos (by omega), if_pos (by omega),
      if_neg (show ¬ ¬ True from fun h => h trivial), if_pos (by omega), if_pos (by omega), if_pos (by omega), if_pos (by omega), if_neg (show ¬ ¬ True from fun h => h trivial), wi64_id (n := (i : Int) + 1) (by omega) (by omega)]
    have hgl : (got.length + 1) * 8 ≤ 140737488355328 := by omega
    by_cases hk0 : (k : Int) > 0
    · have hs := shift_class (c := (k : Int) - 1) (by omega) (by omega)
      have hnl := t.nl (by omega)
      rw [if_pos hk0, if_pos (by omega), if_pos (by omega), wi64_id (n := (k : Int) - 1) (by omega) (by omega), hs.1, hs.2, if_neg (by omega), if_neg (by omega), if_pos hgl]
      rfl
    · rw [if_neg hk0, if_pos hgl]
      rfl
def noC (M : Nat) : List (List Int) := List.replicate M [-1, -1, -1, -1]
theorem played_l0 (M : Nat) (hM : M ≤ 8) (o1 o2 : Bool × Unit) (ws : List Int) (ss : List Span) :
    flotsamref11_Played_l0 ((M : Int), [], 0, o1, o2, ws, ss, [], ()) = some (.out ((M : Int), [], o1, o2, ws, ss, noC M, ())) := by
  unfold flotsamref11_Played_l0
  refine iterL_run M (fun i => ((M : Int), [], (i : Int), o1, o2, ws, ss, noC i, ())) (fun i hi => ?_) ?_ (by omega) rfl
  · simp only [flotsamref11_Played_s0, flotsamref11_Played_s0r, Bool.cond_decide]
    have : (noC i).length = i := by unfold noC; rw [List.length_replicate]
    rw [if_pos (by omega), this, if_pos (by omega), wi64_id (by omega) (by omega)]
    have : noC (i + 1) = noC i ++ [[-1, -1, -1, -1]] := by unfold noC; exact List.replicate_succ'
    rw [this]; rfl
  · simp only [flotsamref11_Played_s0, flotsamref11_Played_s0r, Bool.cond_decide]
    rw [if_neg (by omega)]
theorem played_eq {P M : Nat} (hP : P ≤ 16) (hM : M ≤ 8) : flotsamref11_Played ((P : Int), (M : Int), [], ()) = some (fresh P, noC M, ()) := by
  simp only [flotsamref11_Played, flotsamref11_Played_r, Bool.cond_decide, ibeq]
  rw [wi64_id (by omega) (by omega), if_pos trivial, if_pos (by omega), if_pos (by omega), if_pos trivial, if_pos (by omega), if_pos (by omega), played_l0 M hM, Option.bind_some]
  dsimp only
  have hr : ∀ (c : List (List Int)) (o : Bool × Unit) (h : Heap), flotsamref11_Played_l2 ((M : Int), [], c, 0, o, h, ()) = some (.out (c, o, h, ())) := by
    intro c o h
    unfold flotsamref11_Played_l2
    refine iterL_run 0 (fun _ => ((M : Int), [], c, 0, o, h, ())) (fun i hi => by omega) ?_ (by omega) rfl
    simp only [flotsamref11_Played_s2, flotsamref11_Played_s2r, Bool.cond_decide]
    rw [if_neg (by decide)]
  rw [hr, Option.bind_some]
  have e1 : (32 * (P : Int)).toNat = 32 * P := by omega
  rw [e1, Int.toNat_natCast]
  rfl
theorem own_l1 {N M : Nat} (hM : 1 ≤ M) (hM8 : M ≤ 8) {L : List (Int × Int × Unit)} (hL : L.length ≤ 80) {h : Heap} {c : List (List Int)} (o : OwnP N M h c [] 0) :
    flotsamlaw11_TakeOwn_l1 (L, c, 0, h, [], ()) = some (.out ()) := by
  have : ∃ e, flotsamlaw11_TakeOwn_l1 (L, c, 0, h, [], ()) = some e ∧ e = .out () := by
    unfold flotsamlaw11_TakeOwn_l1
    refine iterL_rule (fun q s => ∃ (i : Nat) (h' : Heap) (c' : List (List Int)) (got : List Int), i ≤ L.length ∧ q = L.length - i ∧ s = (L, c', (i : Int), h', got, ()) ∧ OwnP N M h' c' got i) ?_ _ L.length _ (by omega) ⟨0, h, c, [], by omega, by omega, rfl, o⟩
    rintro q s ⟨i, h', c', got, hi, rfl, rfl, o⟩
    by_cases hlt : i < L.length
    · obtain ⟨h2, c2, g2, e, o2⟩ := own_step hM hM8 hL o hlt
      exact .inl ⟨L.length - (i + 1), _, by omega, e, i + 1, h2, c2, g2, by omega, rfl, rfl, o2⟩
    · right
      refine ⟨_, ?_, rfl⟩
      simp only [flotsamlaw11_TakeOwn_s1, flotsamlaw11_TakeOwn_s1r, Bool.cond_decide]
      rw [if_neg (by omega)]
  obtain ⟨e, h1, rfl⟩ := this
  exact h1
theorem lin_noC {M t : Nat} (ht : t < 4 * M) : lin (noC M) t = -1 := by
  unfold lin ent noC
  have h1 : (List.replicate M ([-1, -1, -1, -1] : List Int)).getD (t / 4) z4 = [-1, -1, -1, -1] := by
    rw [get_d _ _ _ (by rw [List.length_replicate]; omega), List.getElem_replicate]
  rw [h1]
  obtain e | e | e | e : t % 4 = 0 ∨ t % 4 = 1 ∨ t % 4 = 2 ∨ t % 4 = 3 := by omega
  all_goals rw [e]; rfl
theorem takeOwn_pure : ∀ x, Good (.cons (.int .u8) (.cons (.int .u8) (.cons (.sl (.cons cI (.cons cI .nil))) .nil))) x → flotsamlaw11_TakeOwn x = some (true, ()) := by
  rintro ⟨(a : Int), (b : Int), (L : List (Int × Int × Unit)), ⟨⟩⟩ ⟨ga, gb, gL, _⟩
  have ga : (0 : Int) ≤ a ∧ a ≤ 255 := ga
  have gb : (0 : Int) ≤ b ∧ b ≤ 255 := gb
  simp only [flotsamlaw11_TakeOwn, flotsamlaw11_TakeOwn_r, awake11, Option.bind_some, Bool.not_true, cond_false, Bool.cond_decide]
  by_cases hL : (L.length : Int) > 80
  · rw [if_pos hL]
  rw [if_neg hL]
  have ew : ∀ (x : Int) (k : Nat), 0 ≤ x → x ≤ 255 → 0 < k → k ≤ 16 → wi64 (1 + (wi64 x).tmod (k : Int)) = ((1 + x.toNat % k : Nat) : Int) ∧ 1 ≤ 1 + x.toNat % k ∧ 1 + x.toNat % k ≤ k := fun x k h0 h1 k0 k1 => by
    have hm : x.toNat % k < k := Nat.mod_lt _ k0
    rw [wi64_id (n := x) (by omega) (by omega), Int.tmod_eq_emod_of_nonneg h0]
    have e : x % (k : Int) = ((x.toNat % k : Nat) : Int) := by
      rw [Int.natCast_emod, Int.toNat_of_nonneg h0]
    rw [e, wi64_id (by omega) (by omega)]
    exact ⟨by omega, by omega, by omega⟩
  obtain ⟨p1, p2, p3⟩ := ew a 16 ga.1 ga.2 (by decide) (by decide)
  obtain ⟨m1, m2, m3⟩ := ew b 8 gb.1 gb.2 (by decide) (by decide)
  have p1 : wi64 (1 + (wi64 a).tmod 16) = ((1 + a.toNat % 16 : Nat) : Int) := p1
  have m1 : wi64 (1 + (wi64 b).tmod 8) = ((1 + b.toNat % 8 : Nat) : Int) := m1
  rw [p1, m1]
  generalize 1 + a.toNat % 16 = P at p2 p3
  generalize 1 + b.toNat % 8 = M at m2 m3
  have hlenM : (noC M).length = M := by unfold noC; rw [List.length_replicate]
  have o : OwnP P M (fresh P) (noC M) [] 0 := by
    refine ⟨inv_fresh p2 p3, ⟨fun t ht => .inl (lin_noC (by omega)), fun t u ht hu hne => absurd (lin_noC (by omega)) hne⟩, fun r hr => ?_, hlenM, by simp⟩
    rw [(List.mem_replicate.1 hr).2]; rfl
  have hL' : L.length ≤ 80 := by omega
  simp only [played_eq p3 m3, Option.bind_some, own_l1 m2 m3 hL' o]
end Go.Proofs.YtebdioogklmeaaaDoor.Den
