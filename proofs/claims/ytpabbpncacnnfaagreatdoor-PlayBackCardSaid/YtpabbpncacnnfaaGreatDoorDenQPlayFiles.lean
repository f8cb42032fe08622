
/- The pure law PlayFiles. -/
import Derived.Test.YtpabbpncacnnfaaGreatDoorDenQPlayDecodes
import Derived.Test.YtpabbpncacnnfaaGreatDoorDenKb
namespace Go.Proofs.YtpabbpncacnnfaaGreatDoor.Den
open Go
set_option linter.unusedVariables false
set_option linter.unusedSimpArgs false
set_option maxRecDepth 100000

theorem getF_len (b : List Int) : (getF b).1.length ≤ b.length / 5 := by
  unfold getF
  split
  · exact Nat.zero_le _
  · split
    · rw [unN_len]; exact Nat.le_refl _
    · exact Nat.zero_le _
theorem strQ_self (a : List Int) : strQ a a = true := beq_self_eq_true _
theorem playFiles_pure : ∀ x, Good (.cons (.sl (.cons cI (.cons (.cons cI (.cons cI cVal)) .nil))) (.cons (.sl (.int .u8)) .nil)) x → w26_PlayFiles x = some (true, ()) := by
  rintro ⟨(l : List Pk), (b : List Int), ⟨⟩⟩ ⟨gl, gb, -⟩
  have hb : ∀ x ∈ b, (0 : Int) ≤ x ∧ x ≤ 255 := fun x hx => gb.2 x hx
  simp only [w26_PlayFiles, w26_PlayFiles_r, awake26, Option.bind_some, Bool.not_true, cond_false, Bool.cond_decide]
  by_cases h1 : (l.length : Int) > 300
  · rw [if_pos h1]
  · rw [if_neg h1]
    by_cases h2 : (b.length : Int) > 2000
    · rw [if_pos h2]
    · rw [if_neg h2]
      have hlen := getF_len b
      have e1 := put_eq (l := l) (by omega)
      have e2 := put26_eq (l := l) (by omega)
      have e3 := get_eq26 hb (by omega)
      have e4 := get26_eq hb (by omega)
      simp only [e1, e2, e3, e4, Option.bind_some, strQ_self, cond_true, beq_self_eq_true, same26_self (a := (getF b).1) (by omega)]
end Go.Proofs.YtpabbpncacnnfaaGreatDoor.Den
