
/- Pure laws: headers. -/
import Derived.Test.YtdiogegolnoeoaaDoorDenPc
namespace Go.Proofs.YtdiogegolnoeoaaDoor.Den
open Go
set_option linter.unusedVariables false
set_option linter.unusedSimpArgs false
set_option maxRecDepth 100000

/-! Headers. -/
def hz : Hdr := (false, false, 0, 0, ())
def hok (w : Int) : Bool := decide (128 ≤ w ∧ w < 256) && decide (w % 16 < 2 ^ ((w / 16 % 4).toNat + 1))
def hd (w : Int) : Hdr := (true, decide (w / 64 % 2 = 1), w / 16 % 4, w % 16, ())
def hget (w : Int) : Hdr × Bool × Unit := if w = 0 then (hz, true, ()) else if hok w then (hd w, true, ()) else (hz, false, ())
theorem and_mask {y : Int} (h0 : 0 ≤ y) (h1 : y < 18446744073709551616) (k : Nat) (hk : k ≤ 63) : bitsI .and .u64 y (2 ^ k - 1) = y % 2 ^ k := by
  have hp : (2 : Nat) ^ k ≤ 2 ^ 63 := Nat.pow_le_pow_right (by decide) hk
  have hp0 : 0 < (2 : Nat) ^ k := Nat.pow_pos (by decide)
  have e2 : ((2 : Int) ^ k - 1) = ((2 ^ k - 1 : Nat) : Int) := by
    rw [Int.ofNat_sub hp0]; norm_cast
  obtain ⟨m, rfl⟩ := Int.eq_ofNat_of_zero_le h0
  have hm : m < 18446744073709551616 := by omega
  have e : bitsI .and .u64 (m : Int) (2 ^ k - 1) = wu64 ((m &&& (2 ^ k - 1) : Nat) : Int) := by
    rw [e2]
    change wu64 (((BitVec.ofInt 64 (m : Int)) &&& (BitVec.ofInt 64 ((2 ^ k - 1 : Nat) : Int))).toNat : Int) = _
    rw [BitVec.ofInt_natCast, BitVec.ofInt_natCast, BitVec.toNat_and, BitVec.toNat_ofNat, BitVec.toNat_ofNat]
    rw [Nat.mod_eq_of_lt (by omega : m < 2 ^ 64), Nat.mod_eq_of_lt (by omega : 2 ^ k - 1 < 2 ^ 64)]
  rw [e, Nat.and_two_pow_sub_one_eq_mod]
  have : m % 2 ^ k < 2 ^ k := Nat.mod_lt _ hp0
  rw [wu64_id (by omega) (by omega), Int.natCast_emod, Int.natCast_pow]; rfl
theorem put_small : ∀ (u c : Bool) (k n : Nat), k < 4 → n < 16 → ∃ v ok, header_Put ((u, c, (k : Int), (n : Int), ()), ()) = some (v, ok, ()) ∧ 0 ≤ v ∧ v < 256 := by
  have : ([true, false].all fun u => [true, false].all fun c => (List.range 4).all fun k => (List.range 16).all fun n =>
    match header_Put ((u, c, (k : Int), (n : Int), ()), ()) with
    | some (v, _, _) => decide (0 ≤ v ∧ v < 256)
    | none => false) = true := by kernel_rfl
  intro u c k n hk hn
  simp only [List.all_eq_true] at this
  have h := this u (by cases u <;> simp) c (by cases c <;> simp) k (by simpa using hk) n (by simpa using hn)
  split at h
  · rename_i v ok x e
    exact ⟨v, ok, e, of_decide_eq_true h⟩
  · cases h
theorem hget_big {w : Int} (h : 256 ≤ w) : hget w = (hz, false, ()) := by
  unfold hget hok
  rw [if_neg (by omega)]
  simp [show ¬ w < 256 by omega]
end Go.Proofs.YtdiogegolnoeoaaDoor.Den
