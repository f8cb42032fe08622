/- The pure law MarkKeeps. -/
import Derived.Test.YtdiogegolnoeoaaDoorDenVc
namespace Go.Proofs.YtdiogegolnoeoaaDoor.Den
open Go
set_option linter.unusedVariables false
set_option linter.unusedSimpArgs false
set_option maxRecDepth 100000

theorem keeps17_l0 {h : Heap} {m : MarkT} (p : MkP h m) (who : Int) (v : Val) (c1 : Bool × Unit) (c2 : Int) (c3 : Unit) (c4 : C4) (r1 : List Int) (r2 : List Span) (r3 : List Val) (r4 : List Int) :
    flotsamlaw17_MarkKeeps_l0 (who, 0, h, m, v, c1, c2, c3, c4, r1, r2, r3, r4, [], ()) = some (.out (who, h, m, v, c1, c2, c3, c4, r1, r2, r3, r4, m.2.1, ())) := by
  have hb := p.bl
  unfold flotsamlaw17_MarkKeeps_l0
  refine iterL_run m.2.1.length (fun i => (who, (i : Int), h, m, v, c1, c2, c3, c4, r1, r2, r3, r4, m.2.1.take i, ())) (fun i hi => ?_) ?_ (by omega) rfl
  · have hm : m.2.1[i] ∈ m.2.1 := List.getElem_mem hi
    have hg := p.b _ hm
    have h1 := hg.len
    have h2 := hg.r16
    simp only [flotsamlaw17_MarkKeeps_s0, flotsamlaw17_MarkKeeps_s0r, Bool.cond_decide, Int.toNat_natCast, get_d _ _ _ hi]
    rw [if_pos (by omega), if_pos (by omega), if_pos (by omega), if_pos (by omega), if_pos (by omega), if_pos (by omega), if_pos (by rw [List.length_take]; omega), wi64_id (by omega) (by omega), ← List.take_append_getElem hi]
    rfl
  · simp only [flotsamlaw17_MarkKeeps_s0, flotsamlaw17_MarkKeeps_s0r, Bool.cond_decide]
    rw [if_neg (by omega), List.take_length]
theorem markKeeps_pure : ∀ x, Good (.cons cHeap (.cons cMarker (.cons (.int .u8) (.cons cVal .nil)))) x → flotsamlaw17_MarkKeeps x = some (true, ()) := by
  rintro ⟨(h : Heap), (m : MarkT), (who : Int), (v : Val), ⟨⟩⟩ ⟨gh, gm, gw, gv, -⟩
  have gh : Good cHeap h := gh
  have gm : Good cMarker m := gm
  have gw : (0 : Int) ≤ who ∧ who ≤ 255 := gw
  have gv : (-9223372036854775808 : Int) ≤ v.2.1 ∧ v.2.1 ≤ 9223372036854775807 := gv.2.1
  obtain ⟨r, e1, e2⟩ := fits17 gh gm
  simp only [flotsamlaw17_MarkKeeps, flotsamlaw17_MarkKeeps_r, awake17, Option.bind_some, Bool.not_true, cond_false]
  rw [e1]
  simp only [Option.bind_some]
  cases r with
  | false => rfl
  | true =>
  obtain ⟨f, hl, p, hv⟩ := e2 rfl
  have h1 := f.n16
  have h2 := f.len
  have h3 := p.g.len
  have h4 := p.g.r16
  have h5 := p.bl
  simp only [Bool.not_true, cond_false, Bool.cond_decide]
  rw [if_pos (by omega), if_pos (by omega), if_pos (by omega), if_pos (by omega)]
  have l0 := keeps17_l0 p who v (h.2.2.1, ()) m.1.1 m.1.2.2 m.2.2.2 h.1 h.2.1 m.2.2.1 m.1.2.1
  rw [l0]
  simp only [Option.bind_some]
  have s1 : mark_Step ((h.1, h.2.1, (h.2.2.1, ())), ((m.1.1, m.1.2.1, m.1.2.2), m.2.1, m.2.2.1, m.2.2.2), ()) = some (stp h m) := step_eq f p
  have s2 : flotsamref07_Same ((h.1, h.2.1, (h.2.2.1, ())), h, ()) = some (true, ()) := same7_self f
  have s3 : flotsamref17_Same (((m.1.1, m.1.2.1, m.1.2.2), m.2.1, m.2.2.1, m.2.2.2), m, ()) = some (true, ()) := same17_self p
  rw [s1, s2]
  simp only [Option.bind_some, cond_true]
  rw [s3]
  simp only [Option.bind_some]
  by_cases hb : (m.2.1.length : Int) > 0
  · have hn : ¬ (m.2.1.length : Int) = 0 := by omega
    rw [if_pos hb, ibeq, Bool.cond_decide, if_neg hn, wi64_id (by omega) (by omega)]
    have hw : who.tmod (m.2.1.length : Int) = ((who.toNat % m.2.1.length : Nat) : Int) := by
      rw [Int.tmod_eq_emod_of_nonneg gw.1, Int.natCast_emod, Int.toNat_of_nonneg gw.1]
    have s4 := note_eq f p (i := who.toNat % m.2.1.length) (Nat.mod_lt _ (by omega)) (v := v) (by omega) (by omega)
    rw [← hw] at s4
    have s4 : mark_Note ((h.1, h.2.1, (h.2.2.1, ())), ((m.1.1, m.1.2.1, m.1.2.2), m.2.1, m.2.2.1, m.2.2.2), who.tmod (m.2.1.length : Int), v, ()) = _ := s4
    rw [s4]
    rfl
  · rw [if_neg hb]
end Go.Proofs.YtdiogegolnoeoaaDoor.Den
