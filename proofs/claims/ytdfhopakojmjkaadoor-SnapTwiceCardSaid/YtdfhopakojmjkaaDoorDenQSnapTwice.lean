/- The pure law SnapTwice. -/
import Derived.Test.YtdfhopakojmjkaaDoorDenSc
namespace Go.Proofs.YtdfhopakojmjkaaDoor.Den
open Go
set_option linter.unusedVariables false
set_option linter.unusedSimpArgs false
set_option maxRecDepth 100000

theorem twice_l0 {ms : List MutT} (hn : ms.length ≤ 10) (c0 : Heap) (c176 : Int × Int × Int × Val) (c320 : Bool × Unit) (k0 : Int) (k1 : Unit) (k2 : Int × Int × Int × Bool × Unit) (c496 : Bool × Unit) (r256 : List Int) (r257 : List Span) (r258 : List Int) (r259 : List Grey) (r260 : List Val) (r432 : List Int) (r433 : List Span) :
    flotsamlaw18_SnapTwice_l0 (ms, wi64 ((ms.length : Int) - 1), c0, c176, c320, k0, k1, k2, c496, r256, r257, r258, r259, r260, r432, r433, [], ()) = some (.out (c0, c176, c320, k0, k1, k2, c496, r256, r257, r258, r259, r260, r432, r433, ms.reverse, ())) := by
  unfold flotsamlaw18_SnapTwice_l0
  refine iterL_run ms.length (fun k => (ms, (ms.length : Int) - 1 - k, c0, c176, c320, k0, k1, k2, c496, r256, r257, r258, r259, r260, r432, r433, ms.reverse.take k, ())) (fun k hk => ?_) ?_ (by omega) ?_
  · have hr : k < ms.reverse.length := by rw [List.length_reverse]; exact hk
    have ht : ms.reverse.take (k + 1) = ms.reverse.take k ++ [ms.reverse[k]] := (List.take_append_getElem hr).symm
    have hlen : (ms.reverse.take k).length ≤ 10 := by rw [List.length_take, List.length_reverse]; omega
    have hx : ((ms.length : Int) - 1 - (k : Int)).toNat = ms.length - 1 - k := by omega
    simp only [flotsamlaw18_SnapTwice_s0, flotsamlaw18_SnapTwice_s0r, Bool.cond_decide]
    simp only [show (([] : List Val), (0 : Int), ((0 : Int), (0 : Int), (0 : Int), (0 : Int), ()), (0 : Int), ((0 : Int), (0 : Int), ()), List.replicate 4 (0 : Int), ()) = mz from rfl]
    rw [if_pos (by omega), if_pos (by omega), if_pos (by omega), if_pos (by omega), hx, get_d ms _ mz (by omega), ht, List.getElem_reverse, wi64_id (by omega) (by omega)]
    have e : (ms.length : Int) - 1 - (k : Int) - 1 = (ms.length : Int) - 1 - ((k + 1 : Nat) : Int) := by omega
    rw [e]
  · simp only [flotsamlaw18_SnapTwice_s0, flotsamlaw18_SnapTwice_s0r, Bool.cond_decide]
    rw [if_neg (by omega), List.take_of_length_le (by rw [List.length_reverse]; exact Nat.le_refl _)]
  · rw [wi64_id (by omega) (by omega)]
    have e : (ms.length : Int) - 1 = (ms.length : Int) - 1 - ((0 : Nat) : Int) := by omega
    rw [← e]; rfl
theorem named_perm {us vs : List Val} (q : us.Perm vs) (a : Int) : named us a = named vs a := by
  rw [Bool.eq_iff_iff, named_iff, named_iff]
  constructor
  · rintro ⟨v, hv, e⟩; exact ⟨v, q.mem_iff.1 hv, e⟩
  · rintro ⟨v, hv, e⟩; exact ⟨v, q.mem_iff.2 hv, e⟩
theorem MsP.rev {ms : List MutT} (p : MsP ms) : MsP ms.reverse :=
  ⟨by rw [List.length_reverse]; exact p.len, fun m hm => p.st m (List.mem_reverse.1 hm), fun m hm => p.obj m (List.mem_reverse.1 hm)⟩
theorem snapTwice_pure : ∀ x, Good (.cons cHeap (.cons (.sl cMut) .nil)) x → flotsamlaw18_SnapTwice x = some (true, ()) := by
  rintro ⟨(h : Heap), (ms : List MutT), ⟨⟩⟩ ⟨gh, gm, _⟩
  have gh : Good cHeap h := gh
  have gm : Good (.sl cMut) ms := gm
  obtain ⟨fb, e, hb⟩ := fits_eq gh gm
  simp only [flotsamlaw18_SnapTwice, flotsamlaw18_SnapTwice_r, awake18, Option.bind_some, Bool.not_true, cond_false, e]
  cases fb with
  | false => rfl
  | true =>
    obtain ⟨f, p⟩ := hb rfl
    have h1 := heldL_len p.st
    have h2 := pendL_len h ms
    have h1' := heldL_len p.rev.st
    have h2' := pendL_len h ms.reverse
    have hm := p.len
    have hm' := p.rev.len
    have b1 := fun (g : Heap) (fg : FormP g) (l : List MutT) (pl : MsP l) => begin_eq fg pl (x := 0) (y := 0) (z := 0) (show (0 : Int) ≤ 3 by decide) (show (3 : Int) ≤ 16 by decide) (show (0 : Int) ≤ 2 by decide) (show (2 : Int) ≤ 16 by decide)
    have et : turnS (turnS h) = h := by
      show (h.1, h.2.1, !!h.2.2.1, ()) = h
      rw [Bool.not_not]
    have hp : (heldL ms.reverse ++ pendL h ms.reverse).Perm (heldL ms ++ pendL h ms) :=
      ((List.reverse_perm ms).flatMap_right held1).append ((List.reverse_perm ms).flatMap_right (pend1 h))
    simp only [b1 h f ms p, Option.bind_some, Bool.not_true, cond_false]
    rw [show ((turnS h).1, (turnS h).2.1, (turnS h).2.2) = turnS h from rfl, b1 _ f.turn ms p, et, Option.bind_some]
    simp only [twice_l0 hm, Option.bind_some, b1 h f _ p.rev]
    rw [show (h.1, h.2.1, h.2.2) = h from rfl, show ((turnS h).1, (turnS h).2.1, (turnS h).2.2) = turnS h from rfl, same7_self f, Option.bind_some, same7_self f.turn, Option.bind_some]
    simp only [cond_true]
    have e1 : flotsamref15_From (turnS h, (markM 3 2 ms.length (heldL ms ++ pendL h ms)).2.2.1, ()) = _ := from15_eq f.turn (vs := heldL ms ++ pendL h ms) (by rw [List.length_append]; omega)
    have e2 : flotsamref15_From (turnS h, (markM 3 2 ms.reverse.length (heldL ms.reverse ++ pendL h ms.reverse)).2.2.1, ()) = _ := from15_eq f.turn (vs := heldL ms.reverse ++ pendL h ms.reverse) (by rw [List.length_append]; omega)
    have hL := lst_len f.turn
    have hlen := List.length_filter_le (rchB (turnS h) (heldL ms ++ pendL h ms)) (lst (turnS h))
    have hf : (lst (turnS h)).filter (rchB (turnS h) (heldL ms ++ pendL h ms)) = (lst (turnS h)).filter (rchB (turnS h) (heldL ms.reverse ++ pendL h ms.reverse)) :=
      filter_rch rfl fun a => ⟨Rch.more fun b ho hn => .base ho (by rw [named_perm hp]; exact hn), Rch.more fun b ho hn => .base ho (by rw [← named_perm hp]; exact hn)⟩
    have hl : (((markM 3 2 ms.length (heldL ms ++ pendL h ms)).2.2.1.length : Int) == ((markM 3 2 ms.reverse.length (heldL ms.reverse ++ pendL h ms.reverse)).2.2.1.length : Int)) = true := by
      show ((((heldL ms ++ pendL h ms).length : Nat) : Int) == (((heldL ms.reverse ++ pendL h ms.reverse).length : Nat) : Int)) = true
      rw [hp.length_eq, beq_self_eq_true]
    rw [hl, cond_true, e1, Option.bind_some, e2, Option.bind_some]
    dsimp only
    rw [hf, ints_eq _ _ (by rw [← hf]; omega), Option.bind_some]
    simp
end Go.Proofs.YtdfhopakojmjkaaDoor.Den
