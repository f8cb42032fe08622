
/- The pure law PlayDecodes. -/
import Derived.Test.YtpabbpncacnnfaaGreatDoorDenKa
namespace Go.Proofs.YtpabbpncacnnfaaGreatDoor.Den
open Go
set_option linter.unusedVariables false
set_option linter.unusedSimpArgs false
set_option maxRecDepth 100000

theorem awake26 : w26_awake () = some (true, ()) := by kernel_rfl
theorem mut8 {a : Int} (h0 : 0 ≤ a) (h1 : a ≤ 255) : 1 ≤ wi64 (1 + ((wi64 a).tmod 8)) ∧ wi64 (1 + ((wi64 a).tmod 8)) ≤ 8 := by
  have e := Int.tmod_eq_emod_of_nonneg (b := 8) h0
  rw [wi64_id (n := a) (by omega) (by omega), e, wi64_id (by omega) (by omega)]
  omega
theorem dcd_len (m : Int) (raw : List Int) : (dcd m raw).length = (raw.length + 4) / 5 := dcdN_len _ _ _
theorem playDecodes_pure : ∀ x, Good (.cons (.int .u8) (.cons (.sl cI) .nil)) x → w26_PlayDecodes x = some (true, ()) := by
  rintro ⟨(a : Int), (raw : List Int), ⟨⟩⟩ ⟨ga, gr, -⟩
  have ga : (0 : Int) ≤ a ∧ a ≤ 255 := ga
  obtain ⟨m1, m2⟩ := mut8 ga.1 ga.2
  simp only [w26_PlayDecodes, w26_PlayDecodes_r, awake26, Option.bind_some, Bool.not_true, cond_false, Bool.cond_decide]
  by_cases hl : (raw.length : Int) > 1000
  · rw [if_pos hl]
  · rw [if_neg hl]
    have hr : raw.length ≤ 1000000 := by omega
    have hlen : (dcd (wi64 (1 + ((wi64 a).tmod 8))) raw).length ≤ 1000000 := by rw [dcd_len]; omega
    simp only [decode_eq m1 m2 hr, decode26_eq m1 m2 hr, Option.bind_some, same26_self hlen]
end Go.Proofs.YtpabbpncacnnfaaGreatDoor.Den
