
/- Pure laws: a block given back; how many are free. -/
import Derived.Test.YtebdioogklmeaaaDoorDenRc
namespace Go.Proofs.YtebdioogklmeaaaDoor.Den
open Go
set_option linter.unusedVariables false
set_option linter.unusedSimpArgs false
set_option maxRecDepth 100000

theorem bit_whole (k i : Nat) : bit (2 ^ k - 1 : Int) i = decide (i < k) := by
  have hp0 : 0 < (2 : Nat) ^ k := Nat.pow_pos (by decide)
  have e2 : ((2 : Int) ^ k - 1) = ((2 ^ k - 1 : Nat) : Int) := by
    rw [Int.ofNat_sub hp0, pow_cast]; rfl
  rw [e2, bit_test, Nat.testBit_two_pow_sub_one]
def giveP (s : Span) (i : Int) : Prop := (s.1 = 1 ∨ s.1 = 2) ∧ 0 ≤ i ∧ i < cb s.2.1 ∧ bit s.2.2.1 i.toNat = false
end Go.Proofs.YtebdioogklmeaaaDoor.Den
