
/- Pure laws: words, loops. -/
import Derived.Test.YtdokfjkihjkcmaaGreatDoorDenFz
namespace Go.Proofs.YtdokfjkihjkcmaaGreatDoor.Den
open Go
set_option linter.unusedVariables false
set_option linter.unusedSimpArgs false

theorem wi64_id {n : Int} (h1 : -9223372036854775808 ≤ n) (h2 : n < 9223372036854775808) : wi64 n = n := by
  have : IntKind.wrap .i64 n = (if (n % 18446744073709551616) ≥ 9223372036854775808 then n % 18446744073709551616 - 18446744073709551616 else n % 18446744073709551616) := by
    simp [IntKind.wrap, IntKind.bits, IntKind.signed]
  rw [wi64, this]; split <;> omega
theorem wi64_rng (n : Int) : -9223372036854775808 ≤ wi64 n ∧ wi64 n < 9223372036854775808 := by
  have : IntKind.wrap .i64 n = (if (n % 18446744073709551616) ≥ 9223372036854775808 then n % 18446744073709551616 - 18446744073709551616 else n % 18446744073709551616) := by
    simp [IntKind.wrap, IntKind.bits, IntKind.signed]
  rw [wi64, this]; split <;> omega
theorem wu64_eq (n : Int) : wu64 n = n % 18446744073709551616 := by
  simp [wu64, IntKind.wrap, IntKind.bits, IntKind.signed]
theorem wu32_eq (n : Int) : wu32 n = n % 4294967296 := by
  simp [wu32, IntKind.wrap, IntKind.bits, IntKind.signed]
theorem wu64_id {n : Int} (h1 : 0 ≤ n) (h2 : n < 18446744073709551616) : wu64 n = n := by rw [wu64_eq]; omega
theorem wu32_id {n : Int} (h1 : 0 ≤ n) (h2 : n < 4294967296) : wu32 n = n := by rw [wu32_eq]; omega

/-- A loop: each turn goes on with a smaller rest, or ends well. -/
theorem iterL_rule {h o r : U} {step : h.T → Option (SRes h o r)} {Q : LRes o r → Prop} (I : Nat → h.T → Prop)
    (hs : ∀ n x, I n x → (∃ m y, m < n ∧ step x = some (.next y) ∧ I m y) ∨ ∃ l, step x = some (.fin l) ∧ Q l) :
    ∀ fuel n x, n < fuel → I n x → ∃ l, iterL step fuel x = some l ∧ Q l := by
  intro fuel
  induction fuel with
  | zero => intro n x h; omega
  | succ k ih =>
    intro n x h hI
    rcases hs n x hI with ⟨m, y, hm, e, hy⟩ | ⟨l, e, hl⟩
    · obtain ⟨l, e', hl⟩ := ih m y (by omega) hy
      exact ⟨l, by simp only [iterL, e]; exact e', hl⟩
    · exact ⟨l, by simp only [iterL, e], hl⟩
/-- A counted loop with known states. -/
theorem iterL_count {h o r : U} {step : h.T → Option (SRes h o r)} {Q : LRes o r → Prop} (N : Nat) (g : Nat → h.T)
    (hs : ∀ i, i < N → step (g i) = some (.next (g (i + 1))) ∨ ∃ l, step (g i) = some (.fin l) ∧ Q l)
    (he : ∃ l, step (g N) = some (.fin l) ∧ Q l) {fuel : Nat} (hf : N < fuel) {x : h.T} (hx : x = g 0) : ∃ l, iterL step fuel x = some l ∧ Q l := by
  subst hx
  refine iterL_rule (fun n x => ∃ i, i ≤ N ∧ n = N - i ∧ x = g i) ?_ fuel N _ hf ⟨0, by omega, by omega, rfl⟩
  rintro n x ⟨i, hi, rfl, rfl⟩
  by_cases h : i < N
  · rcases hs i h with e | e
    · exact .inl ⟨N - (i + 1), _, by omega, e, i + 1, by omega, rfl, rfl⟩
    · exact .inr e
  · obtain rfl : i = N := by omega
    exact .inr he
/-- A counted loop that ends as it's known. -/
theorem iterL_run {h o r : U} {step : h.T → Option (SRes h o r)} (N : Nat) (g : Nat → h.T) {l : LRes o r}
    (hs : ∀ i, i < N → step (g i) = some (.next (g (i + 1)))) (he : step (g N) = some (.fin l)) {fuel : Nat} (hf : N < fuel) {x : h.T} (hx : x = g 0) : iterL step fuel x = some l := by
  obtain ⟨l', e, rfl⟩ := iterL_count (Q := fun x => x = l) N g (fun i hi => .inl (hs i hi)) ⟨l, he, rfl⟩ hf hx
  exact e
theorem ibeq (a b : Int) : (a == b) = decide (a = b) := rfl
theorem ibne (a b : Int) : (a != b) = decide (¬ a = b) := by rw [bne, ibeq, decide_not]
theorem condn {α : Type} (b : Bool) (x y : α) : (bif !b then x else y) = bif b then y else x := by cases b <;> rfl
theorem get_d {α} (xs : List α) (i : Nat) (z : α) (h : i < xs.length) : xs.getD i z = xs[i] := by
  simp [List.getD, h]
end Go.Proofs.YtdokfjkihjkcmaaGreatDoor.Den
