
/- Play: the same picks; numbers made picks, by program and document. -/
import Derived.Test.YtpabbpncacnnfaaGreatDoorDenPa
namespace Go.Proofs.YtpabbpncacnnfaaGreatDoor.Den
open Go
set_option linter.unusedVariables false
set_option linter.unusedSimpArgs false
set_option maxRecDepth 100000

abbrev Pk := Int × (Int × Int × Val) × Unit
abbrev pkz : Pk := (0, (0, 0, 0, 0, ()), ())
theorem pk_eqB (x y : Pk) : ((x.1 == y.1) && (((x.2.1.1 == y.2.1.1) && ((x.2.1.2.1 == y.2.1.2.1) && ((x.2.1.2.2.1 == y.2.1.2.2.1) && ((x.2.1.2.2.2.1 == y.2.1.2.2.2.1) && true)))) && true)) = decide (x = y) := by
  obtain ⟨a, ⟨b, c, d, e, ⟨⟩⟩, ⟨⟩⟩ := x
  obtain ⟨a', ⟨b', c', d', e', ⟨⟩⟩, ⟨⟩⟩ := y
  simp only [ibeq, Bool.and_true, Prod.mk.injEq, and_true, ← Bool.decide_and]

theorem same26_eq {a b : List Pk} (ha : a.length ≤ 1000000) : ∃ e : Bool, r26_Same (a, b, ()) = some (e, ()) ∧ (e = true ↔ a = b) := by
  simp only [r26_Same, r26_Same_r, ibne, Bool.cond_decide]
  by_cases hl : (a.length : Int) = b.length
  · rw [if_neg (by rw [hl]; simp)]
    have hl' : a.length = b.length := by omega
    obtain ⟨l, e, hq⟩ := iterL_rule (step := r26_Same_s0) (Q := fun l => (l = .out () ∧ a = b) ∨ (l = .ret (false, ()) ∧ a ≠ b))
      (fun n x => ∃ i : Nat, i ≤ a.length ∧ n = a.length - i ∧ x = (a, b, (i : Int), ()) ∧ a.take i = b.take i)
      (by
        rintro n x ⟨i, hi, rfl, rfl, ht⟩
        simp only [r26_Same_s0, r26_Same_s0r, pk_eqB, Bool.cond_decide, Bool.cond_not]
        by_cases h : i < a.length
        · rw [if_pos (show (i : Int) < (a.length : Int) by omega), if_pos (show (0 : Int) ≤ (i : Int) by omega), if_pos (show (i : Int) < (a.length : Int) by omega), if_pos (show (0 : Int) ≤ (i : Int) by omega), if_pos (show (i : Int) < (b.length : Int) by omega)]
          simp only [Int.toNat_natCast]
          have g1 : a.getD i pkz = a[i] := get_d _ _ _ h
          have g2 : b.getD i pkz = b[i] := get_d _ _ _ (by omega)
          by_cases hx : a.getD i pkz = b.getD i pkz
          · left
            refine ⟨a.length - (i + 1), _, by omega, if_pos hx, i + 1, by omega, rfl, ?_, ?_⟩
            · rw [wi64_id (by omega) (by omega)]; rfl
            · rw [List.take_succ_eq_append_getElem h, List.take_succ_eq_append_getElem (by omega), ht, ← g1, hx, g2]
          · right
            exact ⟨_, if_neg hx, .inr ⟨rfl, fun he => hx (by rw [he])⟩⟩
        · right
          rw [if_neg (show ¬ (i : Int) < (a.length : Int) by omega)]
          refine ⟨_, rfl, .inl ⟨rfl, ?_⟩⟩
          rw [List.take_of_length_le (by omega), List.take_of_length_le (by omega)] at ht
          exact ht) 9223372036854775808 a.length (a, b, 0, ()) (by omega) ⟨0, by omega, by omega, rfl, rfl⟩
    rw [show r26_Same_l0 (a, b, 0, ()) = some l from e, Option.bind_some]
    rcases hq with ⟨rfl, h⟩ | ⟨rfl, h⟩
    · exact ⟨true, rfl, fun _ => h, fun _ => rfl⟩
    · exact ⟨false, rfl, (fun h0 => by cases h0), (fun h0 => absurd h0 h)⟩
  · rw [if_pos hl]
    exact ⟨false, rfl, (fun h0 => by cases h0), (fun h0 => absurd (by rw [h0]) hl)⟩
theorem same26_self {a : List Pk} (ha : a.length ≤ 1000000) : r26_Same (a, a, ()) = some (true, ()) := by
  obtain ⟨e, h1, h2⟩ := same26_eq (b := a) ha
  rw [h1, h2.2 rfl]

/-- What is left of a number. -/
theorem rest_eq {n b : Int} (h1 : 0 < b) (h2 : b ≤ 1000) : play_rest (n, b, ()) = some (n % b, ()) := by
  have e := Int.tmod_eq_emod (a := n) (b := b)
  have g1 := Int.emod_nonneg n (show b ≠ 0 by omega)
  have g2 := Int.emod_lt_of_pos n h1
  have hb : (b.natAbs : Int) = b := by omega
  have hr : 0 ≤ n.tmod b + b ∧ n.tmod b + b < 2 * b ∧ (n.tmod b + b = n % b + b ∨ n.tmod b + b = n % b) := by
    rw [e]
    split
    · simp; omega
    · rw [hb]; omega
  simp only [play_rest, play_rest_r, ibeq, Bool.cond_decide]
  rw [if_neg (by omega), if_neg (by omega), wi64_id (by omega) (by omega), Int.tmod_eq_emod_of_nonneg hr.1]
  rcases hr.2.2 with h | h
  · rw [h, Int.add_emod_right, Int.emod_emod_of_dvd _ (Int.dvd_refl b)]
  · rw [h, Int.emod_emod_of_dvd _ (Int.dvd_refl b)]
theorem rest26_eq {n b : Int} (h1 : 0 < b) (h2 : b ≤ 1000) : r26_rest (n, b, ()) = some (n % b, ()) := by
  have e := Int.tmod_eq_emod (a := n) (b := b)
  have g1 := Int.emod_nonneg n (show b ≠ 0 by omega)
  have g2 := Int.emod_lt_of_pos n h1
  have hb : (b.natAbs : Int) = b := by omega
  simp only [r26_rest, r26_rest_r, ibeq, Bool.cond_decide]
  rw [if_neg (by omega)]
  have hr : n.tmod b = n % b ∨ n.tmod b = n % b - b := by
    rw [e]
    split
    · left; simp
    · right; rw [hb]
  by_cases h : n.tmod b < 0
  · rw [if_pos h, wi64_id (by omega) (by omega)]
    have : n.tmod b + b = n % b := by omega
    rw [this]
  · rw [if_neg h]
    have : n.tmod b = n % b := by omega
    rw [this]
theorem at_eq {l : List Int} {i : Int} (h0 : 0 ≤ i) : play_at (l, i, ()) = some (l.getD i.toNat 0, ()) := by
  simp only [play_at, play_at_r, Bool.cond_decide]
  by_cases h : i < (l.length : Int)
  · rw [if_neg (by omega), if_pos h0, if_pos h]
  · rw [if_pos (by omega)]
    have : l.getD i.toNat 0 = 0 := by
      rw [List.getD_eq_getElem?_getD, List.getElem?_eq_none (by omega)]
      rfl
    rw [this]

/-- The pick of five numbers. -/
def pkG (m : Int) (g : Nat → Int) : Pk :=
  if g 0 % (m + 2) = m then ((-1 : Int), (0, 0, 0, 0, ()), ()) else if g 0 % (m + 2) = m + 1 then ((-2 : Int), (0, 0, 0, 0, ()), ()) else (g 0 % (m + 2), (g 1 % 7, g 2 % 17, g 3 % 17, g 4 % 17, ()), ())
def pkF (m : Int) (l : List Int) : Pk := pkG m fun i => l.getD i 0
theorem pkG_congr {m : Int} {g h : Nat → Int} (e : ∀ i, i < 5 → g i = h i) : pkG m g = pkG m h := by
  unfold pkG
  rw [e 0 (by omega), e 1 (by omega), e 2 (by omega), e 3 (by omega), e 4 (by omega)]
theorem pick_eq {m : Int} (h1 : 1 ≤ m) (h2 : m ≤ 8) (l : List Int) : play_pick (m, l, ()) = some (pkF m l, ()) := by
  simp only [play_pick, play_pick_r, at_eq (show (0 : Int) ≤ 0 by omega), at_eq (show (0 : Int) ≤ 1 by omega), at_eq (show (0 : Int) ≤ 2 by omega), at_eq (show (0 : Int) ≤ 3 by omega), at_eq (show (0 : Int) ≤ 4 by omega), Option.bind_some,
    wi64_id (show -9223372036854775808 ≤ m + 2 by omega) (by omega), wi64_id (show -9223372036854775808 ≤ m + 1 by omega) (by omega), rest_eq (show (0 : Int) < m + 2 by omega) (by omega), rest_eq (show (0 : Int) < 7 by omega) (by omega), rest_eq (show (0 : Int) < 17 by omega) (by omega), ibeq, Bool.cond_decide]
  unfold pkF pkG
  rw [show Int.toNat 0 = 0 from rfl, show Int.toNat 1 = 1 from rfl, show Int.toNat 2 = 2 from rfl, show Int.toNat 3 = 3 from rfl, show Int.toNat 4 = 4 from rfl]
  split
  · rfl
  · split
    · rfl
    · rfl

/-- The picks of numbers. -/
def dcdN (m : Int) (raw : List Int) (n : Nat) : List Pk := (List.range n).map fun j => pkF m ((raw.drop (5 * j)).take 5)
def dcd (m : Int) (raw : List Int) : List Pk := dcdN m raw ((raw.length + 4) / 5)
theorem dcdN_succ (m : Int) (raw : List Int) (n : Nat) : dcdN m raw (n + 1) = dcdN m raw n ++ [pkF m ((raw.drop (5 * n)).take 5)] := by
  unfold dcdN
  rw [List.range_succ, List.map_append]
  rfl
theorem dcdN_len (m : Int) (raw : List Int) (n : Nat) : (dcdN m raw n).length = n := by simp [dcdN]
theorem decode_eq {m : Int} (h1 : 1 ≤ m) (h2 : m ≤ 8) {raw : List Int} (hr : raw.length ≤ 1000000) : play_Decode (m, raw, ()) = some (dcd m raw, ()) := by
  have hl : play_Decode_l0 (0, m, raw, 5, [], ()) = some (.out (dcd m raw, ())) := by
    unfold play_Decode_l0
    refine iterL_run ((raw.length + 4) / 5) (fun i => (((5 * i : Nat) : Int), m, raw, (5 : Int), dcdN m raw i, ())) (fun i hi => ?_) ?_ (by omega) rfl
    · have hlt : 5 * i < raw.length := by omega
      have hlen : (((raw.drop (5 * i)).take (raw.length - 5 * i)).length : Int) = ((raw.length - 5 * i : Nat) : Int) := by
        rw [List.length_take, List.length_drop, Nat.min_self]
      simp only [play_Decode_s0, play_Decode_s0r, Int.toNat_natCast, hlen, Bool.cond_decide]
      obtain ⟨e, he, he2⟩ : ∃ e : Nat, (if ((raw.length - 5 * i : Nat) : Int) < 5 then ((raw.length - 5 * i : Nat) : Int) else 5) = (e : Int) ∧ e = min (raw.length - 5 * i) 5 := by
        refine ⟨min (raw.length - 5 * i) 5, ?_, rfl⟩
        split <;> omega
      rw [he, wi64_id (n := ((5 * i : Nat) : Int) + (e : Int)) (by omega) (by omega), wi64_id (n := ((5 * i : Nat) : Int) + 5) (by omega) (by omega)]
      rw [if_pos (show ((5 * i : Nat) : Int) < (raw.length : Int) by omega), if_pos (show (0 : Int) ≤ ((5 * i : Nat) : Int) by omega), if_pos (show ((5 * i : Nat) : Int) ≤ (raw.length : Int) by omega), if_pos (Int.le_refl _)]
      rw [beq_self_eq_true, cond_true, if_pos (show (0 : Int) ≤ ((5 * i : Nat) : Int) by omega), if_pos (show ((5 * i : Nat) : Int) ≤ ((5 * i : Nat) : Int) + (e : Int) by omega), if_pos (show ((5 * i : Nat) : Int) + (e : Int) ≤ (raw.length : Int) by omega)]
      have ht : (raw.drop (5 * i)).take ((((5 * i : Nat) : Int) + (e : Int)).toNat - 5 * i) = (raw.drop (5 * i)).take 5 := by
        rw [show (((5 * i : Nat) : Int) + (e : Int)).toNat - 5 * i = e by omega, he2]
        by_cases h5 : 5 ≤ raw.length - 5 * i
        · rw [Nat.min_eq_right h5]
        · rw [Nat.min_eq_left (by omega), List.take_of_length_le (by rw [List.length_drop]; omega), List.take_of_length_le (by rw [List.length_drop]; omega)]
      rw [ht, pick_eq h1 h2, Option.bind_some, dcdN_len, if_pos (show (i + 1) * 40 ≤ 140737488355328 by omega), dcdN_succ]
      rw [show ((5 * (i + 1) : Nat) : Int) = ((5 * i : Nat) : Int) + 5 by omega]
    · simp only [play_Decode_s0, play_Decode_s0r, Bool.cond_decide]
      rw [if_neg (show ¬ ((5 * ((raw.length + 4) / 5) : Nat) : Int) < (raw.length : Int) by omega)]
      rfl
  simp only [play_Decode, play_Decode_r, hl, Option.bind_some]

/-- Five numbers, as the document copies them. -/
def cpy (raw : List Int) (i n : Nat) : List Int := [if 0 < n then raw.getD i 0 else 0, if 1 < n then raw.getD (i + 1) 0 else 0, if 2 < n then raw.getD (i + 2) 0 else 0, if 3 < n then raw.getD (i + 3) 0 else 0, if 4 < n then raw.getD (i + 4) 0 else 0]
theorem cpy_set (raw : List Int) (i : Nat) {n : Nat} (hn : n < 5) : (cpy raw i n).set n (raw.getD (i + n) 0) = cpy raw i (n + 1) := by
  have : n = 0 ∨ n = 1 ∨ n = 2 ∨ n = 3 ∨ n = 4 := by omega
  rcases this with rfl | rfl | rfl | rfl | rfl <;> rfl
theorem cpy_get (raw : List Int) (i : Nat) {k : Nat} (hk : k < 5) : (cpy raw i (min 5 (raw.length - i))).getD k 0 = raw.getD (i + k) 0 := by
  have hz : ∀ k, ¬ k < raw.length - i → raw.getD (i + k) 0 = 0 := by
    intro k h
    rw [List.getD_eq_getElem?_getD, List.getElem?_eq_none (by omega)]
    rfl
  have key : ∀ k, k < 5 → (if k < min 5 (raw.length - i) then raw.getD (i + k) 0 else 0) = raw.getD (i + k) 0 := by
    intro k h5
    split
    · rfl
    · rename_i h; rw [hz k (by omega)]
  have : k = 0 ∨ k = 1 ∨ k = 2 ∨ k = 3 ∨ k = 4 := by omega
  rcases this with rfl | rfl | rfl | rfl | rfl
  · exact key 0 hk
  · exact key 1 hk
  · exact key 2 hk
  · exact key 3 hk
  · exact key 4 hk
theorem decode26_l0 {raw : List Int} (hr : raw.length ≤ 1000000) (m : Int) {i : Nat} (hi : i < raw.length) (out : List Pk) :
    r26_Decode_l0 (m, raw, (i : Int), 0, List.replicate 5 0, out, ()) = some (.out (m, raw, (i : Int), cpy raw i (min 5 (raw.length - i)), out, ())) := by
  unfold r26_Decode_l0
  refine iterL_run (min 5 (raw.length - i)) (fun n => (m, raw, (i : Int), (n : Int), cpy raw i n, out, ())) (fun n hn => ?_) ?_ (by omega) rfl
  · simp only [r26_Decode_s0, r26_Decode_s0r, Bool.cond_decide, Int.toNat_natCast]
    rw [wi64_id (n := (i : Int) + (n : Int)) (by omega) (by omega), wi64_id (n := (n : Int) + 1) (by omega) (by omega), if_pos (show (n : Int) < 5 by omega), if_pos (show (i : Int) + (n : Int) < (raw.length : Int) by omega), if_pos (show (0 : Int) ≤ (i : Int) + (n : Int) by omega), if_pos (show (i : Int) + (n : Int) < (raw.length : Int) by omega), if_pos (show (0 : Int) ≤ (n : Int) by omega), if_pos (show (n : Int) < 5 by omega), ← cpy_set raw i (show n < 5 by omega)]
    rw [show ((i : Int) + (n : Int)).toNat = i + n by omega]
    rfl
  · simp only [r26_Decode_s0, r26_Decode_s0r, Bool.cond_decide]
    by_cases h : ((min 5 (raw.length - i) : Nat) : Int) < 5
    · rw [if_pos h, wi64_id (n := (i : Int) + ((min 5 (raw.length - i) : Nat) : Int)) (by omega) (by omega), if_neg (by omega)]
    · rw [if_neg h]
theorem decode26_eq {m : Int} (h1 : 1 ≤ m) (h2 : m ≤ 8) {raw : List Int} (hr : raw.length ≤ 1000000) : r26_Decode (m, raw, ()) = some (dcd m raw, ()) := by
  have hl : r26_Decode_l1 (m, raw, 0, [], ()) = some (.out (dcd m raw, ())) := by
    unfold r26_Decode_l1
    refine iterL_run ((raw.length + 4) / 5) (fun i => (m, raw, ((5 * i : Nat) : Int), dcdN m raw i, ())) (fun i hi => ?_) ?_ (by omega) rfl
    · have hlt : 5 * i < raw.length := by omega
      simp only [r26_Decode_s1, r26_Decode_s1r, Bool.cond_decide, decode26_l0 hr m hlt, Option.bind_some]
      rw [if_pos (show ((5 * i : Nat) : Int) < (raw.length : Int) by omega)]
      have hg : ∀ k, k < 5 → (cpy raw (5 * i) (min 5 (raw.length - 5 * i))).getD k 0 = ((raw.drop (5 * i)).take 5).getD k 0 := by
        intro k hk
        rw [cpy_get raw (5 * i) hk, List.getD_eq_getElem?_getD, List.getD_eq_getElem?_getD, List.getElem?_take, if_pos hk, List.getElem?_drop]
      simp only [hg 0 (by omega), hg 1 (by omega), hg 2 (by omega), hg 3 (by omega), hg 4 (by omega),
        wi64_id (show -9223372036854775808 ≤ m + 2 by omega) (by omega), rest26_eq (show (0 : Int) < m + 2 by omega) (by omega), rest26_eq (show (0 : Int) < 7 by omega) (by omega), rest26_eq (show (0 : Int) < 17 by omega) (by omega), Option.bind_some, ibeq, Bool.cond_decide, dcdN_len]
      rw [wi64_id (n := ((5 * i : Nat) : Int) + 5) (by omega) (by omega), if_pos (show (i + 1) * 40 ≤ 140737488355328 by omega), if_pos (show (i + 1) * 40 ≤ 140737488355328 by omega), if_pos (show (i + 1) * 40 ≤ 140737488355328 by omega)]
      rw [show ((5 * (i + 1) : Nat) : Int) = ((5 * i : Nat) : Int) + 5 by omega, dcdN_succ]
      unfold pkF pkG
      have q1 := Int.emod_nonneg (((raw.drop (5 * i)).take 5).getD 0 0) (show m + 2 ≠ 0 by omega)
      have q2 := Int.emod_lt_of_pos (((raw.drop (5 * i)).take 5).getD 0 0) (show 0 < m + 2 by omega)
      by_cases c1 : ((raw.drop (5 * i)).take 5).getD 0 0 % (m + 2) = m
      · rw [if_pos c1, if_pos c1]
      · rw [if_neg c1, if_neg c1]
        by_cases c2 : ((raw.drop (5 * i)).take 5).getD 0 0 % (m + 2) = m + 1
        · rw [if_pos c2, if_pos (by omega)]
        · rw [if_neg c2, if_neg (by omega)]
    · simp only [r26_Decode_s1, r26_Decode_s1r, Bool.cond_decide]
      rw [if_neg (show ¬ ((5 * ((raw.length + 4) / 5) : Nat) : Int) < (raw.length : Int) by omega)]
      rfl
  simp only [r26_Decode, r26_Decode_r, hl, Option.bind_some]

/-- Cut behind some fives. -/
theorem dcd_cut (m : Int) {raw : List Int} {c : Nat} (hc : 5 * c ≤ raw.length) : dcd m raw = dcd m (raw.take (5 * c)) ++ dcd m (raw.drop (5 * c)) := by
  unfold dcd dcdN
  rw [List.length_take, List.length_drop, Nat.min_eq_left hc, show (5 * c + 4) / 5 = c by omega, show (raw.length + 4) / 5 = c + (raw.length - 5 * c + 4) / 5 by omega, List.range_add, List.map_append, List.map_map]
  congr 1
  · refine List.map_congr_left fun j hj => ?_
    have hj : j < c := List.mem_range.1 hj
    refine pkG_congr fun i hi => ?_
    rw [List.getD_eq_getElem?_getD, List.getD_eq_getElem?_getD, List.getElem?_take, List.getElem?_take, if_pos hi, List.getElem?_drop, List.getElem?_drop, List.getElem?_take, if_pos (show 5 * j + i < 5 * c by omega), if_pos hi]
  · refine List.map_congr_left fun j hj => ?_
    show pkF m ((raw.drop (5 * (c + j))).take 5) = pkF m (((raw.drop (5 * c)).drop (5 * j)).take 5)
    rw [List.drop_drop, show 5 * (c + j) = 5 * c + 5 * j by omega]
theorem dcd_turned {m : Int} {raw t : List Int} (hl : t.length = raw.length) (h : ∀ i, i < raw.length → t.getD i 0 % (if i % 5 = 0 then m + 2 else if i % 5 = 1 then 7 else 17) = raw.getD i 0 % (if i % 5 = 0 then m + 2 else if i % 5 = 1 then 7 else 17)) :
    dcd m t = dcd m raw := by
  unfold dcd dcdN
  rw [hl]
  refine List.map_congr_left fun j hj => ?_
  have hg : ∀ (l : List Int) k, k < 5 → ((l.drop (5 * j)).take 5).getD k 0 = l.getD (5 * j + k) 0 := by
    intro l k hk
    rw [List.getD_eq_getElem?_getD, List.getD_eq_getElem?_getD, List.getElem?_take, if_pos hk, List.getElem?_drop]
  have key : ∀ k, k < 5 → t.getD (5 * j + k) 0 % (if k = 0 then m + 2 else if k = 1 then 7 else 17) = raw.getD (5 * j + k) 0 % (if k = 0 then m + 2 else if k = 1 then 7 else 17) := by
    intro k hk
    by_cases hlt : 5 * j + k < raw.length
    · have := h _ hlt
      rw [show (5 * j + k) % 5 = k by omega] at this
      exact this
    · have e1 : t.getD (5 * j + k) 0 = 0 := by rw [List.getD_eq_getElem?_getD, List.getElem?_eq_none (by omega)]; rfl
      have e2 : raw.getD (5 * j + k) 0 = 0 := by rw [List.getD_eq_getElem?_getD, List.getElem?_eq_none (by omega)]; rfl
      rw [e1, e2]
  unfold pkF pkG
  simp only [hg t 0 (by omega), hg t 1 (by omega), hg t 2 (by omega), hg t 3 (by omega), hg t 4 (by omega), hg raw 0 (by omega), hg raw 1 (by omega), hg raw 2 (by omega), hg raw 3 (by omega), hg raw 4 (by omega)]
  have k0 : t.getD (5 * j + 0) 0 % (m + 2) = raw.getD (5 * j + 0) 0 % (m + 2) := key 0 (by omega)
  have k1 : t.getD (5 * j + 1) 0 % 7 = raw.getD (5 * j + 1) 0 % 7 := key 1 (by omega)
  have k2 : t.getD (5 * j + 2) 0 % 17 = raw.getD (5 * j + 2) 0 % 17 := key 2 (by omega)
  have k3 : t.getD (5 * j + 3) 0 % 17 = raw.getD (5 * j + 3) 0 % 17 := key 3 (by omega)
  have k4 : t.getD (5 * j + 4) 0 % 17 = raw.getD (5 * j + 4) 0 % 17 := key 4 (by omega)
  rw [k0, k1, k2, k3, k4]
end Go.Proofs.YtpabbpncacnnfaaGreatDoor.Den
