
/- Play: picks' files, by program and document. -/
import Derived.Test.YtpabbpncacnnfaaGreatDoorDenKa
import Derived.Laws.Strings
namespace Go.Proofs.YtpabbpncacnnfaaGreatDoor.Den
open Go
set_option linter.unusedVariables false
set_option linter.unusedSimpArgs false
set_option maxRecDepth 100000

theorem wu8_id {n : Int} (h1 : 0 ≤ n) (h2 : n ≤ 255) : wu8 n = n := by
  have : wu8 n = n % 256 := by simp [wu8, IntKind.wrap, IntKind.bits, IntKind.signed]
  rw [this]; omega
def okI (w k a b c : Int) : Prop := ((w = -1 ∨ w = -2) ∧ k = 0 ∧ a = 0 ∧ b = 0 ∧ c = 0) ∨
  ((0 ≤ w ∧ w ≤ 7) ∧ (0 ≤ k ∧ k ≤ 255) ∧ (0 ≤ a ∧ a ≤ 255) ∧ (0 ≤ b ∧ b ≤ 255) ∧ (0 ≤ c ∧ c ≤ 255))
instance (w k a b c : Int) : Decidable (okI w k a b c) := by unfold okI; infer_instance
def okP (p : Pk) : Prop := okI p.1 p.2.1.1 p.2.1.2.1 p.2.1.2.2.1 p.2.1.2.2.2.1
instance (p : Pk) : Decidable (okP p) := by unfold okP; infer_instance
def byt5 (p : Pk) : List Int := [if p.1 = -1 then 254 else if p.1 = -2 then 255 else p.1, p.2.1.1, p.2.1.2.1, p.2.1.2.2.1, p.2.1.2.2.2.1]
theorem byt5_rng {p : Pk} (h : okP p) : ∀ x ∈ byt5 p, 0 ≤ x ∧ x ≤ 255 := by
  obtain ⟨(w : Int), ⟨(k : Int), (a : Int), (b : Int), (c : Int), ⟨⟩⟩, ⟨⟩⟩ := p
  have h : okI w k a b c := h
  intro x hx
  unfold okI at h
  have hx : x ∈ [if w = -1 then 254 else if w = -2 then 255 else w, k, a, b, c] := hx
  simp only [List.mem_cons, List.not_mem_nil, or_false] at hx
  rcases hx with rfl | rfl | rfl | rfl | rfl
  · split
    · omega
    · split <;> omega
  all_goals omega
theorem numbers_eq (p : Pk) : play_numbers (p, ()) = some (byt5 p, ()) := by
  simp only [play_numbers, play_numbers_r, ibeq, Bool.cond_decide, byt5]
  by_cases h : p.1 = -1
  · rw [if_pos h, if_pos h]
  · rw [if_neg h, if_neg h]
    by_cases h2 : p.1 = -2
    · rw [if_pos h2, if_pos h2]
    · rw [if_neg h2, if_neg h2]
theorem fits1_eq (a : Int) : play_fits_1 (a, ()) = some (decide (a < 0 ∨ a > 255), ()) := by
  simp only [play_fits_1, play_fits_1_r, Bool.cond_decide]
  by_cases h : a < 0
  · rw [if_pos h, decide_eq_true (Or.inl h)]
  · rw [if_neg h]
    congr 2
    rw [decide_eq_decide]
    omega
theorem fits_l0 {l : List Int} (hl : l.length ≤ 1000) : ∃ x, play_fits_l0 ((l.length : Int), 0, l, ()) = some x ∧ ((x = .out () ∧ ∀ y ∈ l, 0 ≤ y ∧ y ≤ 255) ∨ (∃ i : Int, 0 ≤ i ∧ x = .ret (i, ()) ∧ ¬ ∀ y ∈ l, 0 ≤ y ∧ y ≤ 255)) := by
  unfold play_fits_l0
  refine iterL_rule (fun n x => ∃ i : Nat, i ≤ l.length ∧ n = l.length - i ∧ x = ((l.length : Int), (i : Int), l, ()) ∧ ∀ y ∈ l.take i, 0 ≤ y ∧ y ≤ 255) ?_ 9223372036854775808 l.length _ (by omega) ⟨0, by omega, by omega, rfl, by simp⟩
  rintro n x ⟨i, hi, rfl, rfl, ht⟩
  simp only [play_fits_s0, play_fits_s0r, fits1_eq, Option.bind_some, Bool.cond_decide, Int.toNat_natCast]
  by_cases h : i < l.length
  · rw [if_pos (show (i : Int) < (l.length : Int) by omega), if_pos (show (0 : Int) ≤ (i : Int) by omega), if_pos (show (i : Int) < (l.length : Int) by omega)]
    have g : l.getD i 0 = l[i] := get_d _ _ _ h
    by_cases q : l.getD i 0 < 0 ∨ l.getD i 0 > 255
    · right
      refine ⟨.ret ((i : Int), ()), if_pos q, .inr ⟨i, by omega, rfl, fun ha => ?_⟩⟩
      have := ha _ (List.getElem_mem h)
      rw [← g] at this
      omega
    · left
      refine ⟨l.length - (i + 1), ((l.length : Int), ((i + 1 : Nat) : Int), l, ()), by omega, ?_, i + 1, by omega, rfl, rfl, ?_⟩
      · rw [if_neg q, wi64_id (by omega) (by omega)]
        rfl
      · rw [List.take_succ_eq_append_getElem h]
        intro y hy
        rcases List.mem_append.1 hy with hy | hy
        · exact ht y hy
        · simp at hy; subst hy; rw [← g]; omega
  · right
    rw [if_neg (show ¬ (i : Int) < (l.length : Int) by omega)]
    refine ⟨_, rfl, .inl ⟨rfl, ?_⟩⟩
    rwa [List.take_of_length_le (by omega)] at ht
theorem fits_eq26 (p : Pk) : play_fits (p, ()) = some (decide (okP p), ()) := by
  obtain ⟨x, e, hx⟩ := fits_l0 (l := byt5 p) (by show 5 ≤ 1000; omega)
  simp only [play_fits, play_fits_r, ibeq, Bool.cond_decide, numbers_eq, Option.bind_some, e]
  clear e
  obtain ⟨(w : Int), ⟨(k : Int), (a : Int), (b : Int), (c : Int), ⟨⟩⟩, ⟨⟩⟩ := p
  have e0 : okP (w, (k, a, b, c, ()), ()) = okI w k a b c := rfl
  simp only [e0]
  have z : ((decide (k = 0) && (decide (a = 0) && (decide (b = 0) && (decide (c = 0) && true))))) = decide (k = 0 ∧ a = 0 ∧ b = 0 ∧ c = 0) := by
    simp only [Bool.and_true, Bool.decide_and]
  by_cases h : w = -1
  · rw [if_pos h, z]
    congr 2
    rw [decide_eq_decide]
    unfold okI
    omega
  · rw [if_neg h]
    by_cases h2 : w = -2
    · rw [if_pos h2, z]
      congr 2
      rw [decide_eq_decide]
      unfold okI
      omega
    · rw [if_neg h2]
      have eb : byt5 (w, (k, a, b, c, ()), ()) = [w, k, a, b, c] := by simp only [byt5, if_neg h, if_neg h2]
      rw [eb] at hx ⊢
      have key : (∀ y ∈ [w, k, a, b, c], 0 ≤ y ∧ y ≤ 255) ↔ (0 ≤ w ∧ w ≤ 255) ∧ (0 ≤ k ∧ k ≤ 255) ∧ (0 ≤ a ∧ a ≤ 255) ∧ (0 ≤ b ∧ b ≤ 255) ∧ (0 ≤ c ∧ c ≤ 255) := by
        simp only [List.mem_cons, List.not_mem_nil, or_false, forall_eq_or_imp, forall_eq]
      have e5 : (0 : Int) < (([w, k, a, b, c] : List Int).length : Int) := by show (0 : Int) < 5; omega
      have e6 : ([w, k, a, b, c] : List Int).getD 0 0 = w := rfl
      rw [e6, if_pos e5]
      by_cases g : w ≥ 0
      · rw [if_pos g, if_pos e5]
        by_cases g8 : w < 8
        · rw [if_pos g8]
          rcases hx with ⟨rfl, hx⟩ | ⟨i, hi, rfl, hx⟩
          · have : okI w k a b c := by
              have := key.1 hx
              unfold okI; omega
            rw [decide_eq_true this]
          · have : ¬ okI w k a b c := by
              intro ho
              apply hx
              rw [key]
              unfold okI at ho
              omega
            dsimp only
            rw [decide_eq_false this, decide_eq_true (show i ≥ 0 from hi)]
            rfl
        · rw [if_neg g8]
          have : ¬ okI w k a b c := by unfold okI; omega
          rw [decide_eq_false this]
      · rw [if_neg g]
        have : ¬ okI w k a b c := by unfold okI; omega
        rw [decide_eq_false this]
theorem put_l0 {l ns out : List Int} (X : List Pk) (a b : Int) (hn : ns.length ≤ 1000) (ho : out.length ≤ 1000000) (hr : ∀ x ∈ ns, 0 ≤ x ∧ x ≤ 255) :
    play_Put_l0 (X, a, b, (ns.length : Int), 0, ns, out, ()) = some (.out (X, a, b, out ++ ns, ())) := by
  unfold play_Put_l0
  refine iterL_run ns.length (fun i => (X, a, b, (ns.length : Int), (i : Int), ns, out ++ ns.take i, ())) (fun i hi => ?_) ?_ (by omega) (by simp)
  · simp only [play_Put_s0, play_Put_s0r, Bool.cond_decide, Int.toNat_natCast, List.length_append, List.length_take]
    rw [if_pos (show (i : Int) < (ns.length : Int) by omega), if_pos (show (0 : Int) ≤ (i : Int) by omega), if_pos (show (i : Int) < (ns.length : Int) by omega), if_pos (by omega), wi64_id (n := (i : Int) + 1) (by omega) (by omega)]
    have g : ns.getD i 0 = ns[i] := get_d _ _ _ hi
    have := hr _ (List.getElem_mem hi)
    rw [g, wu8_id this.1 this.2, List.take_succ_eq_append_getElem hi, List.append_assoc]
    rfl
  · simp only [play_Put_s0, play_Put_s0r, Bool.cond_decide]
    rw [if_neg (show ¬ (ns.length : Int) < (ns.length : Int) by omega), List.take_of_length_le (Nat.le_refl _)]
/-- Picks' file. -/
def pickF (l : List Pk) : List Int × Int × Unit := if ∀ p ∈ l, okP p then (l.flatMap byt5, 0, ()) else ([], 8, ())
theorem flat_len (l : List Pk) : (l.flatMap byt5).length = 5 * l.length := by
  induction l with
  | nil => rfl
  | cons p l ih => rw [List.flatMap_cons, List.length_append, ih, List.length_cons]; show 5 + _ = _; omega
theorem take_flat {l : List Pk} {i : Nat} (h : i < l.length) : (l.take (i + 1)).flatMap byt5 = (l.take i).flatMap byt5 ++ byt5 l[i] := by
  rw [List.take_succ_eq_append_getElem h, List.flatMap_append]
  simp
theorem take_ok {l : List Pk} {i : Nat} (h : i < l.length) (ht : ∀ p ∈ l.take i, okP p) (hp : okP l[i]) : ∀ p ∈ l.take (i + 1), okP p := by
  rw [List.take_succ_eq_append_getElem h]
  intro p hm
  rcases List.mem_append.1 hm with hm | hm
  · exact ht p hm
  · simp at hm; subst hm; exact hp
theorem put_eq {l : List Pk} (hl : l.length ≤ 1000) : play_Put (l, ()) = some (pickF l) := by
  obtain ⟨x, e, hx⟩ := iterL_rule (step := play_Put_s1) (Q := fun x => (x = .out (l.flatMap byt5, ()) ∧ ∀ p ∈ l, okP p) ∨ (x = .ret (8, ()) ∧ ¬ ∀ p ∈ l, okP p))
    (fun n x => ∃ i : Nat, i ≤ l.length ∧ n = l.length - i ∧ x = (l, (l.length : Int), (i : Int), (l.take i).flatMap byt5, ()) ∧ ∀ p ∈ l.take i, okP p)
    (by
      rintro n x ⟨i, hi, rfl, rfl, ht⟩
      simp only [play_Put_s1, play_Put_s1r, Bool.cond_decide, Int.toNat_natCast, fits_eq26, numbers_eq, Option.bind_some]
      by_cases h : i < l.length
      · rw [if_pos (show (i : Int) < (l.length : Int) by omega), if_pos (show (0 : Int) ≤ (i : Int) by omega), if_pos (show (i : Int) < (l.length : Int) by omega)]
        have g : l.getD i pkz = l[i] := get_d _ _ _ h
        rw [g]
        by_cases hp : okP l[i]
        · left
          refine ⟨l.length - (i + 1), (l, (l.length : Int), ((i + 1 : Nat) : Int), (l.take (i + 1)).flatMap byt5, ()), by omega, ?_, i + 1, by omega, rfl, rfl, take_ok h ht hp⟩
          rw [decide_eq_true hp]
          have hlen : ((l.take i).flatMap byt5).length ≤ 1000000 := by rw [flat_len, List.length_take]; omega
          rw [put_l0 (l := []) l (l.length : Int) (i : Int) (ns := byt5 l[i]) (by show 5 ≤ 1000; omega) hlen (byt5_rng hp), Option.bind_some]
          dsimp only
          rw [wi64_id (n := (i : Int) + 1) (by omega) (by omega), take_flat h]
          rfl
        · right
          rw [decide_eq_false hp]
          exact ⟨_, rfl, .inr ⟨rfl, fun ha => hp (ha _ (List.getElem_mem h))⟩⟩
      · right
        rw [if_neg (show ¬ (i : Int) < (l.length : Int) by omega)]
        rw [List.take_of_length_le (by omega)] at ht ⊢
        exact ⟨_, rfl, .inl ⟨rfl, ht⟩⟩) 9223372036854775808 l.length (l, (l.length : Int), 0, [], ()) (by omega) ⟨0, by omega, by omega, rfl, by simp⟩
  simp only [play_Put, play_Put_r]
  rw [show play_Put_l1 (l, (l.length : Int), 0, [], ()) = some x from e, Option.bind_some]
  rcases hx with ⟨rfl, h⟩ | ⟨rfl, h⟩
  · rw [pickF, if_pos h]
  · rw [pickF, if_neg h]
theorem byted_eq (a : Int) : r26_byted (a, ()) = some (decide (0 ≤ a ∧ a ≤ 255), ()) := by
  simp only [r26_byted, r26_byted_r, Bool.cond_decide]
  by_cases h : a ≥ 0
  · rw [if_pos h]
    by_cases h2 : a ≤ 255
    · rw [decide_eq_true h2, decide_eq_true ⟨h, h2⟩]
    · rw [decide_eq_false h2, decide_eq_false (fun q => h2 q.2)]
  · rw [if_neg h, decide_eq_false (fun q => h q.1)]
theorem put26_step {l : List Pk} {i : Nat} (h : i < l.length) {out : List Int} (ho : out.length ≤ 1000000) (hl : l.length ≤ 1000) :
    r26_Put_s0 (l, (i : Int), out, ()) = if okP l[i] then some (.next (l, ((i + 1 : Nat) : Int), out ++ byt5 l[i], ())) else some (.fin (.ret (8, ()))) := by
  simp only [r26_Put_s0, r26_Put_s0r, Bool.cond_decide, Bool.cond_not, Int.toNat_natCast, ibeq, byted_eq, Option.bind_some]
  rw [if_pos (show (i : Int) < (l.length : Int) by omega), if_pos (show (0 : Int) ≤ (i : Int) by omega), if_pos (show (i : Int) < (l.length : Int) by omega)]
  have g : l.getD i pkz = l[i] := get_d _ _ _ h
  rw [← g, wi64_id (n := (i : Int) + 1) (by omega) (by omega)]
  obtain ⟨w, ew⟩ : ∃ w : Int, (l.getD i pkz).1 = w := ⟨_, rfl⟩
  obtain ⟨k, ek⟩ : ∃ w : Int, (l.getD i pkz).2.1.1 = w := ⟨_, rfl⟩
  obtain ⟨a, ea⟩ : ∃ w : Int, (l.getD i pkz).2.1.2.1 = w := ⟨_, rfl⟩
  obtain ⟨b, eb⟩ : ∃ w : Int, (l.getD i pkz).2.1.2.2.1 = w := ⟨_, rfl⟩
  obtain ⟨c, ec⟩ : ∃ w : Int, (l.getD i pkz).2.1.2.2.2.1 = w := ⟨_, rfl⟩
  have e0 : okP (l.getD i pkz) = okI w k a b c := by unfold okP; rw [ew, ek, ea, eb, ec]
  have e1 : byt5 (l.getD i pkz) = [if w = -1 then 254 else if w = -2 then 255 else w, k, a, b, c] := by unfold byt5; rw [ew, ek, ea, eb, ec]
  simp only [e0, e1, ew, ek, ea, eb, ec]
  have cast : ((i + 1 : Nat) : Int) = (i : Int) + 1 := by omega
  simp only [Bool.and_true, ← Bool.decide_and, Bool.cond_decide, cast]
  have hq : (out.length + 5) * 1 ≤ 140737488355328 := by omega
  by_cases h1 : w = -1
  · subst h1
    rw [if_pos rfl]
    by_cases z : k = 0 ∧ a = 0 ∧ b = 0 ∧ c = 0
    · obtain ⟨rfl, rfl, rfl, rfl⟩ := z
      rw [if_pos (by simp), if_pos hq, if_pos (show okI (-1) 0 0 0 0 from .inl ⟨.inl rfl, rfl, rfl, rfl, rfl⟩), wi64_id (by omega) (by omega), wu8_id (by omega) (by omega)]
      rfl
    · rw [if_neg z, if_neg (by unfold okI; omega)]
  · rw [if_neg h1]
    by_cases h2 : w = -2
    · subst h2
      rw [if_pos rfl]
      by_cases z : k = 0 ∧ a = 0 ∧ b = 0 ∧ c = 0
      · obtain ⟨rfl, rfl, rfl, rfl⟩ := z
        rw [if_pos (by simp), if_pos hq, if_pos (show okI (-2) 0 0 0 0 from .inl ⟨.inr rfl, rfl, rfl, rfl, rfl⟩), wi64_id (by omega) (by omega), wu8_id (by omega) (by omega)]
        rfl
      · rw [if_neg z, if_neg (by unfold okI; omega)]
    · rw [if_neg h2]
      by_cases c0 : w < 0
      · rw [if_pos c0, if_neg (by unfold okI; omega)]
      · rw [if_neg c0]
        by_cases c1 : w > 7
        · rw [if_pos c1, if_neg (by unfold okI; omega)]
        · rw [if_neg c1]
          by_cases c2 : 0 ≤ k ∧ k ≤ 255
          · rw [if_pos c2]
            by_cases c3 : 0 ≤ a ∧ a ≤ 255
            · rw [if_pos c3]
              by_cases c4 : 0 ≤ b ∧ b ≤ 255
              · rw [if_pos c4]
                by_cases c5 : 0 ≤ c ∧ c ≤ 255
                · rw [if_pos c5, if_pos hq, if_pos (show okI w k a b c from .inr ⟨⟨by omega, by omega⟩, c2, c3, c4, c5⟩), wu8_id (n := w) (by omega) (by omega), wu8_id c2.1 c2.2, wu8_id c3.1 c3.2, wu8_id c4.1 c4.2, wu8_id c5.1 c5.2]
                  rw [if_neg h1, if_neg h2]
                · rw [if_neg c5, if_neg (by unfold okI; omega)]
              · rw [if_neg c4, if_neg (by unfold okI; omega)]
            · rw [if_neg c3, if_neg (by unfold okI; omega)]
          · rw [if_neg c2, if_neg (by unfold okI; omega)]
theorem put26_eq {l : List Pk} (hl : l.length ≤ 1000) : r26_Put (l, ()) = some (pickF l) := by
  obtain ⟨x, e, hx⟩ := iterL_rule (step := r26_Put_s0) (Q := fun x => (x = .out (l.flatMap byt5, ()) ∧ ∀ p ∈ l, okP p) ∨ (x = .ret (8, ()) ∧ ¬ ∀ p ∈ l, okP p))
    (fun n x => ∃ i : Nat, i ≤ l.length ∧ n = l.length - i ∧ x = (l, (i : Int), (l.take i).flatMap byt5, ()) ∧ ∀ p ∈ l.take i, okP p)
    (by
      rintro n x ⟨i, hi, rfl, rfl, ht⟩
      by_cases h : i < l.length
      · have hlen : ((l.take i).flatMap byt5).length ≤ 1000000 := by rw [flat_len, List.length_take]; omega
        by_cases hp : okP l[i]
        · left
          refine ⟨l.length - (i + 1), _, by omega, (put26_step h hlen hl).trans (if_pos hp), i + 1, by omega, rfl, ?_, take_ok h ht hp⟩
          rw [take_flat h]
        · right
          exact ⟨_, (put26_step h hlen hl).trans (if_neg hp), .inr ⟨rfl, fun ha => hp (ha _ (List.getElem_mem h))⟩⟩
      · right
        simp only [r26_Put_s0, r26_Put_s0r, Bool.cond_decide]
        rw [if_neg (show ¬ (i : Int) < (l.length : Int) by omega)]
        rw [List.take_of_length_le (by omega)] at ht ⊢
        exact ⟨_, rfl, .inl ⟨rfl, ht⟩⟩) 9223372036854775808 l.length (l, 0, [], ()) (by omega) ⟨0, by omega, by omega, rfl, by simp⟩
  simp only [r26_Put, r26_Put_r]
  rw [show r26_Put_l0 (l, 0, [], ()) = some x from e, Option.bind_some]
  rcases hx with ⟨rfl, h⟩ | ⟨rfl, h⟩
  · rw [pickF, if_pos h]
  · rw [pickF, if_neg h]

/-- The pick of five bytes. -/
def unG (g : Nat → Int) : Pk := (if g 0 = 254 then (-1 : Int) else if g 0 = 255 then (-2 : Int) else g 0, (g 1, g 2, g 3, g 4, ()), ())
def unB (b : List Int) (j : Nat) : Pk := unG fun k => b.getD (5 * j + k) 0
def unN (b : List Int) (n : Nat) : List Pk := (List.range n).map (unB b)
theorem unN_succ (b : List Int) (n : Nat) : unN b (n + 1) = unN b n ++ [unB b n] := by
  unfold unN
  rw [List.range_succ, List.map_append]
  rfl
theorem unN_len (b : List Int) (n : Nat) : (unN b n).length = n := by simp [unN]
def getF (b : List Int) : List Pk × Int × Unit := if b.length % 5 ≠ 0 then ([], 8, ()) else if ∀ p ∈ unN b (b.length / 5), okP p then (unN b (b.length / 5), 0, ()) else ([], 8, ())
theorem bget {b : List Int} (hb : ∀ x ∈ b, 0 ≤ x ∧ x ≤ 255) (i : Nat) : 0 ≤ b.getD i 0 ∧ b.getD i 0 ≤ 255 := by
  by_cases h : i < b.length
  · rw [get_d _ _ _ h]; exact hb _ (List.getElem_mem h)
  · rw [List.getD_eq_getElem?_getD, List.getElem?_eq_none (by omega)]
    exact ⟨Int.le_refl 0, by decide⟩
theorem unN_ok {b : List Int} {j : Nat} (ht : ∀ p ∈ unN b j, okP p) (hp : okP (unB b j)) : ∀ p ∈ unN b (j + 1), okP p := by
  rw [unN_succ]
  intro p hm
  rcases List.mem_append.1 hm with hm | hm
  · exact ht p hm
  · simp at hm; subst hm; exact hp
theorem get_step {b : List Int} (hb : ∀ x ∈ b, 0 ≤ x ∧ x ≤ 255) (hl : b.length ≤ 100000) (h5 : b.length % 5 = 0) {j : Nat} (h : 5 * j < b.length) {out : List Pk} (ho : out.length ≤ 100000) (m : Int) :
    play_Get_s0 (((5 * j : Nat) : Int), m, b, 5, out, ()) = if okP (unB b j) then some (.next (((5 * (j + 1) : Nat) : Int), m, b, 5, out ++ [unB b j], ())) else some (.fin (.ret (8, out, ()))) := by
  have hlen : (((b.drop (5 * j)).take (b.length - 5 * j)).length : Int) = ((b.length - 5 * j : Nat) : Int) := by
    rw [List.length_take, List.length_drop, Nat.min_self]
  simp only [play_Get_s0, play_Get_s0r, Int.toNat_natCast, hlen, Bool.cond_decide, fits_eq26, Option.bind_some, Bool.cond_not, ibeq]
  rw [if_neg (show ¬ ((b.length - 5 * j : Nat) : Int) < 5 by omega), wi64_id (n := ((5 * j : Nat) : Int) + 5) (by omega) (by omega)]
  have ht : (b.drop (5 * j)).take ((((5 * j : Nat) : Int) + 5).toNat - 5 * j) = (b.drop (5 * j)).take 5 := by
    rw [show (((5 * j : Nat) : Int) + 5).toNat - 5 * j = 5 by omega]
  have hl5 : (((b.drop (5 * j)).take 5).length : Int) = 5 := by rw [List.length_take, List.length_drop]; omega
  rw [ht, hl5]
  have hg : ∀ k, k < 5 → ((b.drop (5 * j)).take 5).getD k 0 = b.getD (5 * j + k) 0 := by
    intro k hk
    rw [List.getD_eq_getElem?_getD, List.getD_eq_getElem?_getD, List.getElem?_take, if_pos hk, List.getElem?_drop]
  have r := fun k => bget hb (5 * j + k)
  have w := fun k => wi64_id (n := b.getD (5 * j + k) 0) (by have := r k; omega) (by have := r k; omega)
  simp only [hg 0 (by omega), hg 1 (by omega), hg 2 (by omega), hg 3 (by omega), hg 4 (by omega), w]
  rw [if_pos (show ((5 * j : Nat) : Int) < (b.length : Int) by omega), if_pos (show (0 : Int) ≤ ((5 * j : Nat) : Int) by omega), if_pos (show ((5 * j : Nat) : Int) ≤ (b.length : Int) by omega), if_pos (Int.le_refl _),
    if_pos trivial, if_pos (show (0 : Int) ≤ ((5 * j : Nat) : Int) by omega), if_pos (show ((5 * j : Nat) : Int) ≤ ((5 * j : Nat) : Int) + 5 by omega), if_pos (show ((5 * j : Nat) : Int) + 5 ≤ (b.length : Int) by omega),
    if_pos (show (0 : Int) < 5 by omega), if_pos (show (1 : Int) < 5 by omega), if_pos (show (2 : Int) < 5 by omega), if_pos (show (3 : Int) < 5 by omega), if_pos (show (4 : Int) < 5 by omega)]
  have hq : (out.length + 1) * 40 ≤ 140737488355328 := by omega
  have ec : ((5 * (j + 1) : Nat) : Int) = ((5 * j : Nat) : Int) + 5 := by omega
  rw [ec]
  by_cases c1 : b.getD (5 * j + 0) 0 = 254
  · have e : unB b j = ((-1), (b.getD (5 * j + 1) 0, b.getD (5 * j + 2) 0, b.getD (5 * j + 3) 0, b.getD (5 * j + 4) 0, ()), ()) := by simp only [unB, unG]; rw [if_pos c1]
    rw [if_pos c1, ← e]
    by_cases hp : okP (unB b j)
    · rw [if_pos hp, if_pos hp, if_pos hq]
    · rw [if_neg hp, if_neg hp]
  · rw [if_neg c1]
    by_cases c2 : b.getD (5 * j + 0) 0 = 255
    · have e : unB b j = ((-2), (b.getD (5 * j + 1) 0, b.getD (5 * j + 2) 0, b.getD (5 * j + 3) 0, b.getD (5 * j + 4) 0, ()), ()) := by simp only [unB, unG]; rw [if_neg c1, if_pos c2]
      rw [if_pos c2, ← e]
      by_cases hp : okP (unB b j)
      · rw [if_pos hp, if_pos hp, if_pos hq]
      · rw [if_neg hp, if_neg hp]
    · have e : unB b j = (b.getD (5 * j + 0) 0, (b.getD (5 * j + 1) 0, b.getD (5 * j + 2) 0, b.getD (5 * j + 3) 0, b.getD (5 * j + 4) 0, ()), ()) := by simp only [unB, unG]; rw [if_neg c1, if_neg c2]
      rw [if_neg c2, ← e]
      by_cases hp : okP (unB b j)
      · rw [if_pos hp, if_pos hp, if_pos hq]
      · rw [if_neg hp, if_neg hp]
theorem mod5 {n : Nat} (hn : n ≤ 1000000) : (((n : Int).tmod 5) != 0) = decide (n % 5 ≠ 0) := by
  rw [ibne, Int.tmod_eq_emod_of_nonneg (by omega)]
  congr 1
  rw [eq_iff_iff]
  omega
theorem get_eq26 {b : List Int} (hb : ∀ x ∈ b, 0 ≤ x ∧ x ≤ 255) (hl : b.length ≤ 100000) : play_Get (b, ()) = some (getF b) := by
  simp only [play_Get, play_Get_r]
  rw [mod5 (by omega), Bool.cond_decide]
  by_cases h5 : b.length % 5 ≠ 0
  · rw [if_pos h5, getF, if_pos h5]
  · rw [if_neg h5]
    have h5 : b.length % 5 = 0 := by omega
    obtain ⟨x, e, hx⟩ := iterL_rule (step := play_Get_s0) (Q := fun x => (x = .out (0, unN b (b.length / 5), ()) ∧ ∀ p ∈ unN b (b.length / 5), okP p) ∨ ((∃ o, x = .ret (8, o, ())) ∧ ¬ ∀ p ∈ unN b (b.length / 5), okP p))
      (fun n x => ∃ j : Nat, j ≤ b.length / 5 ∧ n = b.length / 5 - j ∧ x = (((5 * j : Nat) : Int), 0, b, 5, unN b j, ()) ∧ ∀ p ∈ unN b j, okP p)
      (by
        rintro n x ⟨j, hj, rfl, rfl, ht⟩
        by_cases h : j < b.length / 5
        · have st := get_step hb hl h5 (j := j) (by omega) (out := unN b j) (by rw [unN_len]; omega) 0
          by_cases hp : okP (unB b j)
          · left
            refine ⟨b.length / 5 - (j + 1), _, by omega, st.trans (if_pos hp), j + 1, by omega, rfl, ?_, unN_ok ht hp⟩
            rw [unN_succ]
          · right
            refine ⟨_, st.trans (if_neg hp), .inr ⟨⟨_, rfl⟩, fun ha => hp (ha _ ?_)⟩⟩
            exact List.mem_map.2 ⟨j, List.mem_range.2 h, rfl⟩
        · right
          have ej : j = b.length / 5 := by omega
          subst ej
          simp only [play_Get_s0, play_Get_s0r, Bool.cond_decide]
          rw [if_neg (show ¬ ((5 * (b.length / 5) : Nat) : Int) < (b.length : Int) by omega)]
          exact ⟨_, rfl, .inl ⟨rfl, ht⟩⟩) 9223372036854775808 (b.length / 5) (0, 0, b, 5, [], ()) (by omega) ⟨0, by omega, by omega, rfl, by simp [unN]⟩
    rw [show play_Get_l0 (0, 0, b, 5, [], ()) = some x from e, Option.bind_some, getF, if_neg (by omega)]
    rcases hx with ⟨rfl, h⟩ | ⟨⟨o, rfl⟩, h⟩
    · rw [if_pos h]
    · rw [if_neg h]
theorem get26_step {b : List Int} (hb : ∀ x ∈ b, 0 ≤ x ∧ x ≤ 255) (hl : b.length ≤ 100000) (h5 : b.length % 5 = 0) {j : Nat} (h : 5 * j < b.length) {out : List Pk} (ho : out.length ≤ 100000) :
    r26_Get_s0 (b, ((5 * j : Nat) : Int), out, ()) = if okP (unB b j) then some (.next (b, ((5 * (j + 1) : Nat) : Int), out ++ [unB b j], ())) else some (.fin (.ret (8, ()))) := by
  have a : ∀ k : Nat, k ≤ 5 → wi64 (((5 * j : Nat) : Int) + (k : Int)) = ((5 * j + k : Nat) : Int) := by
    intro k hk
    rw [wi64_id (by omega) (by omega)]; omega
  have a1 : wi64 (((5 * j : Nat) : Int) + 1) = ((5 * j + 1 : Nat) : Int) := a 1 (by omega)
  have a2 : wi64 (((5 * j : Nat) : Int) + 2) = ((5 * j + 2 : Nat) : Int) := a 2 (by omega)
  have a3 : wi64 (((5 * j : Nat) : Int) + 3) = ((5 * j + 3 : Nat) : Int) := a 3 (by omega)
  have a4 : wi64 (((5 * j : Nat) : Int) + 4) = ((5 * j + 4 : Nat) : Int) := a 4 (by omega)
  have a5 : wi64 (((5 * j : Nat) : Int) + 5) = ((5 * j + 5 : Nat) : Int) := a 5 (by omega)
  have r := fun k => bget hb (5 * j + k)
  have w := fun k => wi64_id (n := b.getD (5 * j + k) 0) (by have := r k; omega) (by have := r k; omega)
  have w0 : wi64 (b.getD (5 * j) 0) = b.getD (5 * j) 0 := w 0
  have hP : ∀ p : Pk, r26_Put ([p], ()) = some (if okP p then (byt5 p, 0, ()) else ([], 8, ())) := by
    intro p
    rw [put26_eq (by show 1 ≤ 1000; omega), pickF]
    congr 1
    by_cases hp : okP p
    · rw [if_pos hp, if_pos (by intro q hq; simp at hq; subst hq; exact hp)]
      simp
    · rw [if_neg hp, if_neg (fun ha => hp (ha p (by simp)))]
  simp only [r26_Get_s0, r26_Get_s0r, a1, a2, a3, a4, a5, Int.toNat_natCast, Bool.cond_decide, w, w0, hP, Option.bind_some]
  rw [if_pos (show ((5 * j : Nat) : Int) < (b.length : Int) by omega), if_pos (show (0 : Int) ≤ ((5 * j : Nat) : Int) by omega), if_pos (show ((5 * j : Nat) : Int) < (b.length : Int) by omega),
    if_pos (show (0 : Int) ≤ ((5 * j + 1 : Nat) : Int) by omega), if_pos (show ((5 * j + 1 : Nat) : Int) < (b.length : Int) by omega), if_pos (show (0 : Int) ≤ ((5 * j + 2 : Nat) : Int) by omega), if_pos (show ((5 * j + 2 : Nat) : Int) < (b.length : Int) by omega),
    if_pos (show (0 : Int) ≤ ((5 * j + 3 : Nat) : Int) by omega), if_pos (show ((5 * j + 3 : Nat) : Int) < (b.length : Int) by omega), if_pos (show (0 : Int) ≤ ((5 * j + 4 : Nat) : Int) by omega), if_pos (show ((5 * j + 4 : Nat) : Int) < (b.length : Int) by omega)]
  have hq : (out.length + 1) * 40 ≤ 140737488355328 := by omega
  have ec : ((5 * (j + 1) : Nat) : Int) = ((5 * j + 5 : Nat) : Int) := by omega
  rw [ec]
  have r0 := r 0
  have e8 : ((8 : Int) != 0) = true := by decide
  have e0 : ((0 : Int) != 0) = false := by decide
  by_cases c : b.getD (5 * j) 0 ≥ 254
  · have e : unB b j = ((253 - b.getD (5 * j) 0), (b.getD (5 * j + 1) 0, b.getD (5 * j + 2) 0, b.getD (5 * j + 3) 0, b.getD (5 * j + 4) 0, ()), ()) := by
      simp only [unB, unG, Nat.add_zero] at r0 ⊢
      by_cases c1 : b.getD (5 * j) 0 = 254
      · rw [if_pos c1, c1]; rfl
      · have c2 : b.getD (5 * j) 0 = 255 := by omega
        rw [if_neg c1, if_pos c2, c2]; rfl
    simp only [Nat.add_zero] at r0
    rw [if_pos c, wi64_id (n := 253 - b.getD (5 * j) 0) (by omega) (by omega), ← e]
    by_cases hp : okP (unB b j)
    · rw [if_pos hp, if_pos hp]
      dsimp only
      rw [e0, cond_false, if_pos hq]
    · rw [if_neg hp, if_neg hp]
      dsimp only
      rw [e8, cond_true]
  · have e : unB b j = (b.getD (5 * j) 0, (b.getD (5 * j + 1) 0, b.getD (5 * j + 2) 0, b.getD (5 * j + 3) 0, b.getD (5 * j + 4) 0, ()), ()) := by
      simp only [unB, unG, Nat.add_zero]
      rw [if_neg (by omega), if_neg (by omega)]
    rw [if_neg c, ← e]
    by_cases hp : okP (unB b j)
    · rw [if_pos hp, if_pos hp]
      dsimp only
      rw [e0, cond_false, if_pos hq]
    · rw [if_neg hp, if_neg hp]
      dsimp only
      rw [e8, cond_true]
theorem get26_eq {b : List Int} (hb : ∀ x ∈ b, 0 ≤ x ∧ x ≤ 255) (hl : b.length ≤ 100000) : r26_Get (b, ()) = some (getF b) := by
  simp only [r26_Get, r26_Get_r]
  rw [mod5 (by omega), Bool.cond_decide]
  by_cases h5 : b.length % 5 ≠ 0
  · rw [if_pos h5, getF, if_pos h5]
  · rw [if_neg h5]
    have h5 : b.length % 5 = 0 := by omega
    obtain ⟨x, e, hx⟩ := iterL_rule (step := r26_Get_s0) (Q := fun x => (x = .out (unN b (b.length / 5), ()) ∧ ∀ p ∈ unN b (b.length / 5), okP p) ∨ (x = .ret (8, ()) ∧ ¬ ∀ p ∈ unN b (b.length / 5), okP p))
      (fun n x => ∃ j : Nat, j ≤ b.length / 5 ∧ n = b.length / 5 - j ∧ x = (b, ((5 * j : Nat) : Int), unN b j, ()) ∧ ∀ p ∈ unN b j, okP p)
      (by
        rintro n x ⟨j, hj, rfl, rfl, ht⟩
        by_cases h : j < b.length / 5
        · have st := get26_step hb hl h5 (j := j) (by omega) (out := unN b j) (by rw [unN_len]; omega)
          by_cases hp : okP (unB b j)
          · left
            refine ⟨b.length / 5 - (j + 1), _, by omega, st.trans (if_pos hp), j + 1, by omega, rfl, ?_, unN_ok ht hp⟩
            rw [unN_succ]
          · right
            refine ⟨_, st.trans (if_neg hp), .inr ⟨rfl, fun ha => hp (ha _ ?_)⟩⟩
            exact List.mem_map.2 ⟨j, List.mem_range.2 h, rfl⟩
        · right
          have ej : j = b.length / 5 := by omega
          subst ej
          simp only [r26_Get_s0, r26_Get_s0r, Bool.cond_decide]
          rw [if_neg (show ¬ ((5 * (b.length / 5) : Nat) : Int) < (b.length : Int) by omega)]
          exact ⟨_, rfl, .inl ⟨rfl, ht⟩⟩) 9223372036854775808 (b.length / 5) (b, 0, [], ()) (by omega) ⟨0, by omega, by omega, rfl, by simp [unN]⟩
    rw [show r26_Get_l0 (b, 0, [], ()) = some x from e, Option.bind_some, getF, if_neg (by omega)]
    rcases hx with ⟨rfl, h⟩ | ⟨rfl, h⟩
    · rw [if_pos h]
    · rw [if_neg h]

/-! what is read is put as it was; unlike picks have unlike files -/
theorem strN_inj : ∀ {a b : List Int}, (∀ x ∈ a, 0 ≤ x ∧ x ≤ 255) → (∀ x ∈ b, 0 ≤ x ∧ x ≤ 255) → strN a = strN b → a = b := by
  intro a b ha hb h
  have h1 : (a.map fun n => UInt8.ofNat n.toNat) = (b.map fun n => UInt8.ofNat n.toNat) := by
    have : (a.map fun n => UInt8.ofNat n.toNat).toArray = (b.map fun n => UInt8.ofNat n.toNat).toArray := congrArg ByteArray.data h
    simpa using this
  clear h
  induction a generalizing b with
  | nil =>
    cases b with
    | nil => rfl
    | cons y b => cases h1
  | cons x a ih =>
    cases b with
    | nil => cases h1
    | cons y b =>
      rw [List.map_cons, List.map_cons] at h1
      injection h1 with h1 h2
      have e := ih (fun z hz => ha z (by simp [hz])) (fun z hz => hb z (by simp [hz])) h2
      have r1 := ha x (by simp)
      have r2 := hb y (by simp)
      have : (UInt8.ofNat x.toNat).toNat = (UInt8.ofNat y.toNat).toNat := by rw [h1]
      rw [UInt8.toNat_ofNat', UInt8.toNat_ofNat'] at this
      rw [Nat.mod_eq_of_lt (by omega), Nat.mod_eq_of_lt (by omega)] at this
      rw [e, show x = y by omega]
theorem strN_beq {a b : List Int} (ha : ∀ x ∈ a, 0 ≤ x ∧ x ≤ 255) (hb : ∀ x ∈ b, 0 ≤ x ∧ x ≤ 255) : strQ a b = true ↔ a = b := by
  constructor
  · intro h
    have h := eq_of_beq h
    rw [ByteArray.toList_eq, ByteArray.toList_eq] at h
    have h : strN a = strN b := by
      have : ∀ {x y : ByteArray}, x.data.toList = y.data.toList → x = y := by
        rintro ⟨⟨x⟩⟩ ⟨⟨y⟩⟩ h
        have h : x = y := h
        rw [h]
      exact this h
    exact strN_inj ha hb h
  · rintro rfl; exact beq_self_eq_true _
theorem byt5_inj {p q : Pk} (hp : okP p) (hq : okP q) (h : byt5 p = byt5 q) : p = q := by
  obtain ⟨(w : Int), ⟨(k : Int), (a : Int), (b : Int), (c : Int), ⟨⟩⟩, ⟨⟩⟩ := p
  obtain ⟨(w' : Int), ⟨(k' : Int), (a' : Int), (b' : Int), (c' : Int), ⟨⟩⟩, ⟨⟩⟩ := q
  have hp : okI w k a b c := hp
  have hq : okI w' k' a' b' c' := hq
  have h : [if w = -1 then 254 else if w = -2 then 255 else w, k, a, b, c] = [if w' = -1 then 254 else if w' = -2 then 255 else w', k', a', b', c'] := h
  simp only [List.cons.injEq, and_true] at h
  obtain ⟨h0, rfl, rfl, rfl, rfl⟩ := h
  have : w = w' := by
    unfold okI at hp hq
    split at h0 <;> (try split at h0) <;> (try split at h0) <;> (try split at h0) <;> omega
  rw [this]
theorem flat_inj : ∀ {l m : List Pk}, (∀ p ∈ l, okP p) → (∀ p ∈ m, okP p) → l.flatMap byt5 = m.flatMap byt5 → l = m := by
  intro l
  induction l with
  | nil =>
    intro m _ _ h
    cases m with
    | nil => rfl
    | cons q m =>
      have := congrArg List.length h
      rw [flat_len, flat_len] at this
      simp at this
  | cons p l ih =>
    intro m hl hm h
    cases m with
    | nil =>
      have := congrArg List.length h
      rw [flat_len, flat_len] at this
      simp at this
    | cons q m =>
      rw [List.flatMap_cons, List.flatMap_cons] at h
      obtain ⟨h1, h2⟩ := List.append_inj h rfl
      rw [byt5_inj (hl p (by simp)) (hm q (by simp)) h1, ih (fun x hx => hl x (by simp [hx])) (fun x hx => hm x (by simp [hx])) h2]
theorem flat_rng {l : List Pk} (h : ∀ p ∈ l, okP p) : ∀ x ∈ l.flatMap byt5, 0 ≤ x ∧ x ≤ 255 := by
  intro x hx
  obtain ⟨p, hp, hx⟩ := List.mem_flatMap.1 hx
  exact byt5_rng (h p hp) x hx
theorem byt5_unB {b : List Int} {j : Nat} (h : okP (unB b j)) (hb : ∀ x ∈ b, 0 ≤ x ∧ x ≤ 255) (hj : 5 * j + 5 ≤ b.length) : byt5 (unB b j) = (b.drop (5 * j)).take 5 := by
  have r0 := bget hb (5 * j)
  have e : ∀ k (hk : k < 5), b.getD (5 * j + k) 0 = b[5 * j + k] := fun k hk => get_d _ _ _ (by omega)
  have d : (b.drop (5 * j)).take 5 = [b[5 * j], b[5 * j + 1], b[5 * j + 2], b[5 * j + 3], b[5 * j + 4]] := by
    apply List.ext_getElem
    · rw [List.length_take, List.length_drop]; simp; omega
    · intro i h1 h2
      rw [List.getElem_take, List.getElem_drop]
      have : i = 0 ∨ i = 1 ∨ i = 2 ∨ i = 3 ∨ i = 4 := by simp at h2; omega
      rcases this with rfl | rfl | rfl | rfl | rfl <;> rfl
  rw [d]
  have e0 : b.getD (5 * j + 0) 0 = b[5 * j] := e 0 (by omega)
  have h : okI (if b.getD (5 * j + 0) 0 = 254 then (-1 : Int) else if b.getD (5 * j + 0) 0 = 255 then (-2 : Int) else b.getD (5 * j + 0) 0) (b.getD (5 * j + 1) 0) (b.getD (5 * j + 2) 0) (b.getD (5 * j + 3) 0) (b.getD (5 * j + 4) 0) := h
  unfold okI at h
  simp only [byt5, unB, unG, e0, e 1 (by omega), e 2 (by omega), e 3 (by omega), e 4 (by omega)] at h ⊢
  simp only [Nat.add_zero] at e0
  rw [e0] at r0
  congr 1
  by_cases c1 : b[5 * j] = 254
  · rw [if_pos c1, if_pos rfl, c1]
  · rw [if_neg c1] at h ⊢
    by_cases c2 : b[5 * j] = 255
    · rw [if_pos c2, if_neg (by decide), if_pos rfl, c2]
    · rw [if_neg c2] at h ⊢
      rw [if_neg (by omega), if_neg (by omega)]
theorem flat_unN {b : List Int} (hb : ∀ x ∈ b, 0 ≤ x ∧ x ≤ 255) : ∀ n, 5 * n ≤ b.length → (∀ p ∈ unN b n, okP p) → (unN b n).flatMap byt5 = b.take (5 * n)
  | 0, _, _ => by simp [unN]
  | n + 1, hn, ho => by
    rw [unN_succ] at ho ⊢
    rw [List.flatMap_append, flat_unN hb n (by omega) (fun p hp => ho p (by simp [hp]))]
    simp only [List.flatMap_cons, List.flatMap_nil, List.append_nil]
    rw [byt5_unB (ho _ (by simp)) hb (by omega), show 5 * (n + 1) = 5 * n + 5 by omega, List.take_add]
end Go.Proofs.YtpabbpncacnnfaaGreatDoor.Den
