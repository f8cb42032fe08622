/- The pure law SnapHolds. -/
import Derived.Test.YtdfhopakojmjkaaDoorDenSc
namespace Go.Proofs.YtdfhopakojmjkaaDoor.Den
open Go
set_option linter.unusedVariables false
set_option linter.unusedSimpArgs false
set_option maxRecDepth 100000

theorem holds_l0 {ms : List MutT} (p : MsP ms) (h : Heap) (c272 : Bool × Unit) (c0 : Int) (c1 : Unit) (c2 : Int × Int × Int × Bool × Unit) (r208 : List Int) (r209 : List Span) (r210 : List Int) (r211 : List Grey) (r212 : List Val) :
    flotsamlaw18_SnapHolds_l0 (ms, 0, h, c272, c0, c1, c2, r208, r209, r210, r211, r212, [], ()) = some (.out (h, c272, c0, c1, c2, r208, r209, r210, r211, r212, heldL ms, ())) := by
  have hn := p.len
  unfold flotsamlaw18_SnapHolds_l0
  refine iterL_run ms.length (fun i => (ms, (i : Int), h, c272, c0, c1, c2, r208, r209, r210, r211, r212, heldL (ms.take i), ())) (fun i hi => ?_) ?_ (by omega) rfl
  · have hl := (p.take ([], [], false, ()) i).1
    have hm := p.st _ (List.getElem_mem hi)
    simp only [flotsamlaw18_SnapHolds_s0, flotsamlaw18_SnapHolds_s0r, Bool.cond_decide, Int.toNat_natCast, ibeq]
    simp only [show (([] : List Val), (0 : Int), ((0 : Int), (0 : Int), (0 : Int), (0 : Int), ()), (0 : Int), ((0 : Int), (0 : Int), ()), List.replicate 4 (0 : Int), ()) = mz from rfl, get_d ms i mz hi, List.length_append, List.length_cons, List.length_nil]
    have hs : heldL (ms.take (i + 1)) = heldL (ms.take i) ++ held1 ms[i] := flat_take held1 ms i hi
    rw [wi64_id (by omega) (by omega), hs]
    generalize heldL (ms.take i) = r at *
    generalize ms[i] = m at *
    by_cases h2 : m.2.1 = 2
    · have e : held1 m = m.1 ++ [(2, m.2.2.2.1, ())] := by unfold held1 regs; rw [if_pos h2]
      repeat (first | rw [if_pos (by omega)] | rw [if_neg (by omega)])
      rw [e, List.append_assoc]; rfl
    by_cases h3 : m.2.1 = 3
    · have e : held1 m = m.1 ++ [m.2.2.2.2.1] := by unfold held1 regs; rw [if_neg h2, if_pos h3]
      repeat (first | rw [if_pos (by omega)] | rw [if_neg (by omega)])
      rw [e, List.append_assoc]; rfl
    by_cases h4 : m.2.1 = 4
    · have e : held1 m = m.1 ++ [(2, m.2.2.2.1, ()), m.2.2.2.2.1] := by unfold held1 regs; rw [if_neg h2, if_neg h3, if_pos h4]
      repeat (first | rw [if_pos (by omega)] | rw [if_neg (by omega)])
      rw [e, List.append_assoc, List.append_assoc]; rfl
    · have e : held1 m = m.1 := by unfold held1 regs; rw [if_neg h2, if_neg h3, if_neg h4, List.append_nil]
      repeat (first | rw [if_pos (by omega)] | rw [if_neg (by omega)])
      rw [e]; rfl
  · simp only [flotsamlaw18_SnapHolds_s0, flotsamlaw18_SnapHolds_s0r, Bool.cond_decide]
    rw [if_neg (by omega), List.take_of_length_le (Nat.le_refl _)]
theorem holds_l1 {h : Heap} (f : FormP h) {L : List Int} (hL : L.length ≤ 512) (ho : ∀ a ∈ L, okA h a = true) (c0 : Int) (c1 : Unit) (c2 : Int × Int × Int × Bool × Unit) (r210 : List Int) (r211 : List Grey) (r212 r368 : List Val) :
    flotsamlaw18_SnapHolds_l1 (0, h, (turnS h).2.2, c0, c1, c2, (turnS h).1, (turnS h).2.1, r210, r211, r212, r368, L, ()) = some (.out (h, (turnS h).2.2, c0, c1, c2, (turnS h).1, (turnS h).2.1, r210, r211, r212, r368, ())) := by
  unfold flotsamlaw18_SnapHolds_l1
  refine iterL_run L.length (fun i => ((i : Int), h, (turnS h).2.2, c0, c1, c2, (turnS h).1, (turnS h).2.1, r210, r211, r212, r368, L, ())) (fun i hi => ?_) ?_ (by omega) rfl
  · have hok := ho _ (List.getElem_mem hi)
    simp only [flotsamlaw18_SnapHolds_s1, flotsamlaw18_SnapHolds_s1r, Bool.cond_decide, Int.toNat_natCast, get_d L i 0 hi, black8_eq f, Option.bind_some]
    rw [show ((turnS h).1, (turnS h).2.1, (turnS h).2.2) = turnS h from rfl, black8_eq f.turn, Option.bind_some, bk_turn hok]
    rw [if_pos (by omega), if_pos (by omega), if_pos (by omega), if_pos (by omega), if_pos (by omega), wi64_id (by omega) (by omega)]
    cases bk h L[i] <;> rfl
  · simp only [flotsamlaw18_SnapHolds_s1, flotsamlaw18_SnapHolds_s1r, Bool.cond_decide]
    rw [if_neg (by omega)]
theorem snapHolds_pure : ∀ x, Good (.cons cHeap (.cons (.sl cMut) .nil)) x → flotsamlaw18_SnapHolds x = some (true, ()) := by
  rintro ⟨(h : Heap), (ms : List MutT), ⟨⟩⟩ ⟨gh, gm, _⟩
  have gh : Good cHeap h := gh
  have gm : Good (.sl cMut) ms := gm
  obtain ⟨fb, e, hb⟩ := fits_eq gh gm
  simp only [flotsamlaw18_SnapHolds, flotsamlaw18_SnapHolds_r, awake18, Option.bind_some, Bool.not_true, cond_false, e]
  cases fb with
  | false => rfl
  | true =>
    obtain ⟨f, p⟩ := hb rfl
    have h1 := heldL_len p.st
    have h2 := pendL_len h ms
    have hm := p.len
    have hL := lst_len f
    simp only [begin_eq f p (x := 0) (y := 0) (z := 0) (show (0 : Int) ≤ 1 by decide) (show (1 : Int) ≤ 16 by decide) (show (0 : Int) ≤ 1 by decide) (show (1 : Int) ≤ 16 by decide), Option.bind_some, Bool.not_true, cond_false, holds_l0 p, list_eq f,
      holds_l1 f hL (fun a ha => (mem_lst f).1 ha)]
    rw [show ((turnS h).1, (turnS h).2.1, (turnS h).2.2) = turnS h from rfl]
    have e1 := from15_eq f.turn (vs := heldL ms ++ pendL h ms) (by rw [List.length_append]; omega)
    have e2 := from15_eq f (vs := heldL ms) (by omega)
    have e3 : flotsamref15_From (turnS h, (markM 1 1 ms.length (heldL ms ++ pendL h ms)).2.2.1, ()) = _ := e1
    have hf := filter_rch (lst_turn h) (begin_reached f ms)
    have hlen := List.length_filter_le (rchB h (heldL ms)) (lst h)
    rw [e3, e2, Option.bind_some, Option.bind_some]
    dsimp only
    rw [hf, ints_eq _ _ (by omega), Option.bind_some]
    simp
end Go.Proofs.YtdfhopakojmjkaaDoor.Den
