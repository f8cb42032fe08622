
/- The pure law PlayParts. -/
import Derived.Test.YtpabbpncacnnfaaGreatDoorDenQPlayDecodes
namespace Go.Proofs.YtpabbpncacnnfaaGreatDoor.Den
open Go
set_option linter.unusedVariables false
set_option linter.unusedSimpArgs false
set_option maxRecDepth 100000

def tby (m : Int) (i : Nat) : Int := if i % 5 = 0 then m + 2 else if i % 5 = 1 then 7 else 17
def tur (m : Int) (raw : List Int) (more : Int) (i : Nat) : Int := (raw.getD i 0).tmod (tby m i) + tby m i * more
theorem tmod_cases (x : Int) {b : Int} (hb : 0 < b) : (x.tmod b = x % b ∨ x.tmod b = x % b - b) := by
  rw [Int.tmod_eq_emod]
  split
  · left; simp
  · right; omega
theorem tur_emod {m : Int} (h1 : 1 ≤ m) (raw : List Int) (more : Int) (i : Nat) : tur m raw more i % tby m i = raw.getD i 0 % tby m i := by
  have hb : 0 < tby m i := by
    unfold tby
    split
    · omega
    · split <;> omega
  unfold tur
  rw [Int.add_mul_emod_self_left]
  rcases tmod_cases (raw.getD i 0) hb with h | h
  · rw [h, Int.emod_emod_of_dvd _ (Int.dvd_refl _)]
  · rw [h, Int.sub_emod_right, Int.emod_emod_of_dvd _ (Int.dvd_refl _)]
theorem tmod_bnd (x : Int) {b : Int} (hb : 0 < b) : -b < x.tmod b ∧ x.tmod b < b := by
  have g1 := Int.emod_nonneg x (show b ≠ 0 by omega)
  have g2 := Int.emod_lt_of_pos x hb
  rcases tmod_cases x hb with h | h
  · omega
  · have : x.tmod b < 0 ∨ x.tmod b = 0 ∨ 0 < x.tmod b := by omega
    have e := Int.tmod_eq_emod (a := x) (b := b)
    split at e
    · omega
    · rename_i hn
      have : x % b ≠ 0 := fun h0 => hn (.inr (Int.dvd_of_emod_eq_zero h0))
      omega
theorem parts_l0 {m more : Int} (h1 : 1 ≤ m) (h2 : m ≤ 8) (k1 : -128 ≤ more) (k2 : more ≤ 127) {raw : List Int} (hr : raw.length ≤ 1000) (A B C : List Pk) :
    w26_PlayParts_l0 (raw, more, m, 0, A, B, C, [], ()) = some (.out (m, A, B, C, (List.range raw.length).map (tur m raw more), ())) := by
  unfold w26_PlayParts_l0
  refine iterL_run raw.length (fun i => (raw, more, m, (i : Int), A, B, C, (List.range i).map (tur m raw more), ())) (fun i hi => ?_) ?_ (by omega) rfl
  · simp only [w26_PlayParts_s0, w26_PlayParts_s0r, Bool.cond_decide, Int.toNat_natCast, ibeq, List.length_map, List.length_range]
    rw [if_pos (show (i : Int) < (raw.length : Int) by omega)]
    have em : (i : Int).tmod 5 = ((i % 5 : Nat) : Int) := by rw [Int.tmod_eq_emod_of_nonneg (by omega)]; omega
    have eg : ∀ b : Int, 0 < b → b ≤ 17 → wi64 ((raw.getD i 0).tmod b + wi64 (b * wi64 more)) = (raw.getD i 0).tmod b + b * more := by
      intro b hb hb2
      have := tmod_bnd (raw.getD i 0) hb
      have q1 : b * more ≤ 17 * 128 := by
        rcases Int.le_total 0 more with h | h
        · exact Int.le_trans (Int.mul_le_mul hb2 k2 h (by omega)) (by omega)
        · have := Int.mul_nonneg (show 0 ≤ b by omega) (show 0 ≤ -more by omega)
          rw [Int.mul_neg] at this
          omega
      have q2 : -(17 * 128) ≤ b * more := by
        rcases Int.le_total 0 more with h | h
        · have := Int.mul_nonneg (show 0 ≤ b by omega) h
          omega
        · have := Int.mul_le_mul hb2 (show -more ≤ 128 by omega) (show 0 ≤ -more by omega) (show (0:Int) ≤ 17 by omega)
          rw [Int.mul_neg] at this
          omega
      rw [wi64_id (n := more) (by omega) (by omega), wi64_id (n := b * more) (by omega) (by omega), wi64_id (by omega) (by omega)]
    have e2 : wi64 (m + 2) = m + 2 := wi64_id (by omega) (by omega)
    have e1 : wi64 ((i : Int) + 1) = ((i + 1 : Nat) : Int) := by rw [wi64_id (by omega) (by omega)]; omega
    have p1 : (0 : Int) ≤ (i : Int) := by omega
    have p2 : (i : Int) < (raw.length : Int) := by omega
    have p3 : (i + 1) * 8 ≤ 140737488355328 := by omega
    rw [em, List.range_succ, List.map_append]
    by_cases c0 : i % 5 = 0
    · have d0 : ((i % 5 : Nat) : Int) = 0 := by omega
      have d1 : ¬ ((i % 5 : Nat) : Int) = 1 := by omega
      rw [if_pos d0, if_neg d1, if_pos p1, if_pos p2, e2, if_neg (show ¬ m + 2 = 0 by omega), if_pos p3, eg (m + 2) (by omega) (by omega), e1]
      simp only [List.map_cons, List.map_nil, tur, tby, if_pos c0]
    · have d0 : ¬ ((i % 5 : Nat) : Int) = 0 := by omega
      rw [if_neg d0]
      by_cases c1 : i % 5 = 1
      · have d1 : ((i % 5 : Nat) : Int) = 1 := by omega
        rw [if_pos d1, if_pos p1, if_pos p2, if_pos p3, eg 7 (by omega) (by omega), e1]
        simp only [List.map_cons, List.map_nil, tur, tby, if_neg c0, if_pos c1]
      · have d1 : ¬ ((i % 5 : Nat) : Int) = 1 := by omega
        rw [if_neg d1, if_pos p1, if_pos p2, if_pos p3, eg 17 (by omega) (by omega), e1]
        simp only [List.map_cons, List.map_nil, tur, tby, if_neg c0, if_neg c1]
  · simp only [w26_PlayParts_s0, w26_PlayParts_s0r, Bool.cond_decide]
    rw [if_neg (show ¬ (raw.length : Int) < (raw.length : Int) by omega)]
theorem cut_eq {a : Int} (h0 : 0 ≤ a) (h1 : a ≤ 255) {n : Nat} (hn : n ≤ 1000) : ¬ wi64 (wi64 ((n : Int).tdiv 5) + 1) = 0 ∧ ∃ c : Nat, 5 * c ≤ n ∧ wi64 (5 * ((wi64 a).tmod (wi64 (wi64 ((n : Int).tdiv 5) + 1)))) = ((5 * c : Nat) : Int) := by
  have e : (n : Int).tdiv 5 = ((n / 5 : Nat) : Int) := by rw [Int.tdiv_eq_ediv_of_nonneg (by omega)]; omega
  rw [e, wi64_id (n := ((n / 5 : Nat) : Int)) (by omega) (by omega), wi64_id (n := ((n / 5 : Nat) : Int) + 1) (by omega) (by omega), wi64_id (n := a) (by omega) (by omega), Int.tmod_eq_emod_of_nonneg h0]
  refine ⟨by omega, ?_⟩
  have g1 := Int.emod_nonneg a (show ((n / 5 : Nat) : Int) + 1 ≠ 0 by omega)
  have g2 := Int.emod_lt_of_pos a (show 0 < ((n / 5 : Nat) : Int) + 1 by omega)
  refine ⟨(a % (((n / 5 : Nat) : Int) + 1)).toNat, by omega, ?_⟩
  rw [wi64_id (by omega) (by omega)]
  omega
theorem playParts_pure : ∀ x, Good (.cons (.int .u8) (.cons (.sl cI) (.cons (.int .u8) (.cons (.int .i8) .nil)))) x → w26_PlayParts x = some (true, ()) := by
  rintro ⟨(a : Int), (raw : List Int), (cut : Int), (more : Int), ⟨⟩⟩ ⟨ga, gr, gc, gm, -⟩
  have ga : (0 : Int) ≤ a ∧ a ≤ 255 := ga
  have gc : (0 : Int) ≤ cut ∧ cut ≤ 255 := gc
  have gm : (-128 : Int) ≤ more ∧ more ≤ 127 := gm
  obtain ⟨m1, m2⟩ := mut8 ga.1 ga.2
  simp only [w26_PlayParts, w26_PlayParts_r, awake26, Option.bind_some, Bool.not_true, cond_false, Bool.cond_decide]
  by_cases hl : (raw.length : Int) > 1000
  · rw [if_pos hl]
  · rw [if_neg hl]
    have hr : raw.length ≤ 1000000 := by omega
    generalize wi64 (1 + ((wi64 a).tmod 8)) = m at m1 m2
    obtain ⟨z, c, hc, e⟩ := cut_eq gc.1 gc.2 (n := raw.length) (by omega)
    simp only [decode_eq m1 m2 hr, Option.bind_some, ibeq, Bool.cond_decide]
    rw [if_neg z]
    simp only [e]
    rw [if_pos (show (0 : Int) ≤ ((5 * c : Nat) : Int) by omega), if_pos (show ((5 * c : Nat) : Int) ≤ (raw.length : Int) by omega)]
    have t1 : (raw.drop 0).take (((5 * c : Nat) : Int).toNat - 0) = raw.take (5 * c) := by rw [List.drop_zero]; congr 1
    have t2 : (raw.drop ((5 * c : Nat) : Int).toNat).take ((raw.length : Int).toNat - ((5 * c : Nat) : Int).toNat) = raw.drop (5 * c) := by
      rw [Int.toNat_natCast, Int.toNat_natCast, List.take_of_length_le (by rw [List.length_drop]; omega)]
    rw [t1, t2, decode_eq m1 m2 (by rw [List.length_take]; omega), Option.bind_some, if_pos (show (0 : Int) ≤ ((5 * c : Nat) : Int) by omega), if_pos (show ((5 * c : Nat) : Int) ≤ (raw.length : Int) by omega), if_pos (Int.le_refl _),
      decode_eq m1 m2 (by rw [List.length_drop]; omega), Option.bind_some, parts_l0 m1 m2 gm.1 gm.2 (by omega), Option.bind_some]
    dsimp only
    have l1 := dcd_len m (raw.take (5 * c))
    have l2 := dcd_len m (raw.drop (5 * c))
    have l0 := dcd_len m raw
    rw [List.length_take] at l1
    rw [List.length_drop] at l2
    rw [if_pos (by omega), if_pos (by omega), ← dcd_cut m hc, same26_self (by omega), Option.bind_some]
    dsimp only
    have lt : ((List.range raw.length).map (tur m raw more)).length = raw.length := by rw [List.length_map, List.length_range]
    rw [cond_true, decode_eq m1 m2 (by omega), Option.bind_some]
    have ed : dcd m ((List.range raw.length).map (tur m raw more)) = dcd m raw := by
      refine dcd_turned lt fun i hi => ?_
      have : ((List.range raw.length).map (tur m raw more)).getD i 0 = tur m raw more i := by
        rw [get_d _ _ _ (by omega)]
        simp
      rw [this]
      exact tur_emod m1 raw more i
    dsimp only
    rw [ed, same26_self (by omega), Option.bind_some]
end Go.Proofs.YtpabbpncacnnfaaGreatDoor.Den
