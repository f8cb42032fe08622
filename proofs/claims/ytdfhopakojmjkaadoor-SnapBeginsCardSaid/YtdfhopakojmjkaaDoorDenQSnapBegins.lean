/- The pure law SnapBegins. -/
import Derived.Test.YtdfhopakojmjkaaDoorDenSb
namespace Go.Proofs.YtdfhopakojmjkaaDoor.Den
open Go
set_option linter.unusedVariables false
set_option linter.unusedSimpArgs false
set_option maxRecDepth 100000

theorem rem17 {a : Int} (h0 : 0 ≤ a) (h1 : a ≤ 255) : 0 ≤ (wi64 a).tmod 17 ∧ (wi64 a).tmod 17 ≤ 16 := by
  rw [wi64_id (by omega) (by omega), Int.tmod_eq_emod_of_nonneg h0]; omega
theorem snapBegins_pure : ∀ x, Good (.cons (.int .u8) (.cons (.int .u8) (.cons cHeap (.cons (.sl cMut) .nil)))) x → flotsamlaw18_SnapBegins x = some (true, ()) := by
  rintro ⟨(a : Int), (b : Int), (h : Heap), (ms : List MutT), ⟨⟩⟩ ⟨ga, gb, gh, gm, _⟩
  have ga : (0 : Int) ≤ a ∧ a ≤ 255 := ga
  have gb : (0 : Int) ≤ b ∧ b ≤ 255 := gb
  have gh : Good cHeap h := gh
  have gm : Good (.sl cMut) ms := gm
  obtain ⟨fb, e, hb⟩ := fits_eq gh gm
  simp only [flotsamlaw18_SnapBegins, flotsamlaw18_SnapBegins_r, awake18, Option.bind_some, Bool.not_true, cond_false, e]
  cases fb with
  | false => rfl
  | true =>
    obtain ⟨f, p⟩ := hb rfl
    obtain ⟨g0, g1⟩ := rem17 ga.1 ga.2
    obtain ⟨b0, b1⟩ := rem17 gb.1 gb.2
    have h1 := heldL_len p.st
    have h2 := pendL_len h ms
    have hm := p.len
    simp only [begin_eq f p g0 g1 b0 b1, begin18_eq f p, Option.bind_some, Bool.not_true, cond_false]
    have e1 : flotsamref07_Same (turnS h, turnS h, ()) = some (true, ()) := same7_self f.turn
    have e2 := same17_self (g := (wi64 a).tmod 17) (b := (wi64 b).tmod 17) hm (vs := heldL ms ++ pendL h ms) (by rw [List.length_append]; omega)
    rw [show ((turnS h).1, (turnS h).2.1, (turnS h).2.2) = turnS h from rfl, e1, Option.bind_some]
    dsimp only
    rw [cond_true]
    exact (congrArg (fun o => o.bind fun y8 => some (y8.1, ())) e2).trans rfl
end Go.Proofs.YtdfhopakojmjkaaDoor.Den
