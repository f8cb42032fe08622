
/- The pure law PlayBack. -/
import Derived.Test.YtpabbpncacnnfaaGreatDoorDenQPlayFiles
namespace Go.Proofs.YtpabbpncacnnfaaGreatDoor.Den
open Go
set_option linter.unusedVariables false
set_option linter.unusedSimpArgs false
set_option maxRecDepth 100000

/-- What is read is put as it was. -/
theorem put_get {b : List Int} (hb : ∀ x ∈ b, 0 ≤ x ∧ x ≤ 255) : ((getF b).2.1 ≠ 0 ∧ (getF b).1 = []) ∨ ((getF b).2.1 = 0 ∧ pickF (getF b).1 = (b, 0, ())) := by
  unfold getF
  split
  · left; exact ⟨by show (8 : Int) ≠ 0; omega, rfl⟩
  · rename_i h5
    split
    · rename_i ho
      right
      refine ⟨rfl, ?_⟩
      show pickF (unN b (b.length / 5)) = _
      rw [pickF, if_pos ho, flat_unN hb _ (by omega) ho, List.take_of_length_le (by omega)]
    · left; exact ⟨by show (8 : Int) ≠ 0; omega, rfl⟩
theorem pickF_cases (l : List Pk) : ((pickF l).2.1 = 0 ∧ (∀ p ∈ l, okP p) ∧ (pickF l).1 = l.flatMap byt5) ∨ (pickF l).2.1 ≠ 0 := by
  unfold pickF
  split
  · rename_i h; exact .inl ⟨rfl, h, rfl⟩
  · exact .inr (by show (8 : Int) ≠ 0; omega)
theorem playBack_pure : ∀ x, Good (.cons (.sl (.cons cI (.cons (.cons cI (.cons cI cVal)) .nil))) (.cons (.sl (.cons cI (.cons (.cons cI (.cons cI cVal)) .nil))) (.cons (.sl (.int .u8)) .nil))) x → w26_PlayBack x = some (true, ()) := by
  rintro ⟨(l : List Pk), (m : List Pk), (b : List Int), ⟨⟩⟩ ⟨gl, gm, gb, -⟩
  have hb : ∀ x ∈ b, (0 : Int) ≤ x ∧ x ≤ 255 := fun x hx => gb.2 x hx
  simp only [w26_PlayBack, w26_PlayBack_r, awake26, Option.bind_some, Bool.not_true, cond_false, Bool.cond_decide]
  by_cases h1 : (l.length : Int) > 300
  · rw [if_pos h1]
  · rw [if_neg h1]
    by_cases h2 : (m.length : Int) > 300
    · rw [if_pos h2]
    · rw [if_neg h2]
      by_cases h3 : (b.length : Int) > 2000
      · rw [if_pos h3]
      · rw [if_neg h3]
        have hlen := getF_len b
        have e1 := put_eq (l := l) (by omega)
        have e2 := put_eq (l := m) (by omega)
        have e3 := get_eq26 hb (by omega)
        have e4 := put_eq (l := (getF b).1) (by omega)
        obtain ⟨s, e5, hs⟩ := same26_eq (a := l) (b := m) (by omega)
        simp only [e1, e2, e3, e4, e5, Option.bind_some]
        have tail : (bif (getF b).2.1 != 0 then (bif ((getF b).1.length : Int) == 0 then some (true, ()) else bif (pickF (getF b).1).2.1 == 0 then some (strQ (pickF (getF b).1).1 b, ()) else some (false, ())) else bif (pickF (getF b).1).2.1 == 0 then some (strQ (pickF (getF b).1).1 b, ()) else some (false, ())) = (some (true, ()) : Option (Bool × Unit)) := by
          rcases put_get hb with ⟨g1, g2⟩ | ⟨g1, g2⟩
          · have : ((getF b).2.1 != 0) = true := by rw [ibne]; exact decide_eq_true g1
            rw [this, g2]
            rfl
          · have : ((getF b).2.1 != 0) = false := by rw [ibne]; exact decide_eq_false (fun h => h g1)
            rw [this, g2]
            simp only [cond_false, beq_self_eq_true, cond_true, strQ_self]
        rw [tail]
        rcases pickF_cases l with ⟨c1, c2, c3⟩ | c1
        · have t1 : ((pickF l).2.1 == 0) = true := by rw [ibeq]; exact decide_eq_true c1
          rcases pickF_cases m with ⟨d1, d2, d3⟩ | d1
          · have t2 : ((pickF m).2.1 == 0) = true := by rw [ibeq]; exact decide_eq_true d1
            rw [t1, t2, cond_true, cond_true]
            have : (strQ (pickF l).1 (pickF m).1 == s) = true := by
              rw [c3, d3]
              have q := strN_beq (flat_rng c2) (flat_rng d2)
              have r : strQ (l.flatMap byt5) (m.flatMap byt5) = true ↔ s = true := by
                rw [q, hs]
                exact ⟨fun h => flat_inj c2 d2 h, fun h => by rw [h]⟩
              rw [beq_iff_eq, Bool.eq_iff_iff]
              exact r
            rw [this]
            rfl
          · have t2 : ((pickF m).2.1 == 0) = false := by rw [ibeq]; exact decide_eq_false d1
            rw [t1, t2]
            rfl
        · have t1 : ((pickF l).2.1 == 0) = false := by rw [ibeq]; exact decide_eq_false c1
          rw [t1]
          rfl
end Go.Proofs.YtpabbpncacnnfaaGreatDoor.Den
