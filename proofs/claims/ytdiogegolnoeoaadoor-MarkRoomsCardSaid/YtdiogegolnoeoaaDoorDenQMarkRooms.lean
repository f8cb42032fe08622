/- The pure law MarkRooms. -/
import Derived.Test.YtdiogegolnoeoaaDoorDenVg
namespace Go.Proofs.YtdiogegolnoeoaaDoor.Den
open Go
set_option linter.unusedVariables false
set_option linter.unusedSimpArgs false
set_option maxRecDepth 100000

theorem ended_eq {h0 : Heap} (f0 : FormP h0) (ap : apB h0 = true) (nb : ∀ a, bk h0 a = false) {g : Int} (g0 : 0 ≤ g) (g1 : g ≤ 16) {vs : List Val} (hv : vs.length ≤ 1000) (hw : ∀ v : Val, v ∈ vs → -9223372036854775808 ≤ v.2.1 ∧ v.2.1 < 9223372036854775808) :
    flotsamlaw17_ended (h0, g, vs, ()) = some (pn h0 (rchB h0 vs), true, ()) := by
  obtain ⟨r0, t0⟩ := begun f0 nb g0 g1 (bs := []) (by simp) (fun b hb => by cases hb) hv hw
  have hb := bound17_eq f0 r0.p
  have hpot := pot_le f0 (S := fun _ => false) pn_none.symm r0.p
  have hbl := bnd_le f0 r0.p
  have hnew : mark_New (g, [], vs, ()) = some (newM g [] vs, true, ()) := new17_eq g0 g1 (by simp) (fun b hb => by cases hb) hv
  generalize newM g [] vs = m0 at *
  have key : ∃ l, flotsamlaw17_ended_l0 ((bnd h0 m0 : Int), 0, h0, (false, ()), m0, ()) = some l ∧ l = .ret (true, pn h0 (rchB h0 vs), ()) := by
    unfold flotsamlaw17_ended_l0
    refine iterL_rule (fun n x => ∃ (i : Nat) (h : Heap) (m : MarkT), x = ((bnd h0 m0 : Int), (i : Int), h, (false, ()), m, ()) ∧ n = bnd h0 m0 + 1 - i ∧ pot h0 h m + i ≤ bnd h0 m0 ∧ RunM h0 vs h m ∧ Tri h0 vs h m) ?_ _ (bnd h0 m0 + 1) _ (by omega) ⟨0, h0, m0, rfl, by omega, by omega, r0, t0⟩
    rintro n x ⟨i, h, m, rfl, rfl, hp, r, t⟩
    have f := r.form f0
    simp only [flotsamlaw17_ended_s0, flotsamlaw17_ended_s0r, Bool.cond_decide]
    rw [if_pos (by omega)]
    rw [show mark_Step (h, m, ()) = some (stp h m) from step_eq f r.p]
    simp only [Option.bind_some]
    rcases stp_cases f r.p with ⟨e, d⟩ | ⟨h', m', e, s⟩
    · rw [e]
      exact .inr ⟨_, rfl, by rw [ended_heap f0 nb r t d]⟩
    · rw [e]
      obtain ⟨S, eS⟩ := r.pt
      obtain ⟨r', hp'⟩ := r.step f0 ap s
      rw [wi64_id (by omega) (by omega)]
      exact .inl ⟨bnd h0 m0 + 1 - (i + 1), _, by omega, rfl, i + 1, h', m', rfl, rfl, by omega, r', s.tri f0 ap eS t⟩
  obtain ⟨l, e, rfl⟩ := key
  simp only [flotsamlaw17_ended, flotsamlaw17_ended_r]
  rw [hnew]
  simp only [Option.bind_some, Bool.not_true, cond_false]
  rw [show flotsamref17_Bound (h0, ((m0.1.1, m0.1.2.1, m0.1.2.2), m0.2.1, m0.2.2.1, m0.2.2.2), ()) = some ((bnd h0 m0 : Int), ()) from hb]
  simp only [Option.bind_some]
  rw [show flotsamlaw17_ended_l0 ((bnd h0 m0 : Int), 0, h0, (false, ()), ((m0.1.1, m0.1.2.1, m0.1.2.2), m0.2.1, m0.2.2.1, m0.2.2.2), ()) = _ from e]
  rfl
theorem rooms_l0 (room : Int) (vs : List Val) (hv : vs.length ≤ 1000) (h : Heap) : flotsamlaw17_MarkRooms_l0 (room, vs, (vs.length : Int) - 1, h, [], ()) = some (.out (room, vs, h, vs.reverse, ())) := by
  unfold flotsamlaw17_MarkRooms_l0
  refine iterL_run vs.length (fun i => (room, vs, (vs.length : Int) - 1 - i, h, vs.reverse.take i, ())) (fun i hi => ?_) ?_ (by omega) (by simp)
  · have hr : i < vs.reverse.length := by rw [List.length_reverse]; exact hi
    have ht : (vs.reverse.take i).length ≤ 1000 := by rw [List.length_take]; omega
    have e1 : ((vs.length : Int) - 1 - i).toNat = vs.length - 1 - i := by omega
    have e2 : vs.reverse.take (i + 1) = vs.reverse.take i ++ [vs.getD (vs.length - 1 - i) (0, 0, ())] := by
      rw [← List.take_append_getElem hr, List.getElem_reverse, get_d _ _ _ (by omega)]
    simp only [flotsamlaw17_MarkRooms_s0, flotsamlaw17_MarkRooms_s0r, Bool.cond_decide]
    rw [if_pos (by omega), if_pos (by omega), if_pos (by omega), if_pos (by omega), wi64_id (by omega) (by omega), e1, e2, show ((vs.length : Int) - 1 - i - 1) = (vs.length : Int) - 1 - ((i + 1 : Nat) : Int) by omega]
  · simp only [flotsamlaw17_MarkRooms_s0, flotsamlaw17_MarkRooms_s0r, Bool.cond_decide]
    rw [if_neg (by omega), List.take_of_length_le (by rw [List.length_reverse]; omega)]
theorem markRooms_pure : ∀ x, Good (.cons cHeap (.cons (.int .u8) (.cons (.sl cVal) .nil))) x → flotsamlaw17_MarkRooms x = some (true, ()) := by
  rintro ⟨(h : Heap), (room : Int), (vs : List Val), ⟨⟩⟩ ⟨gh, gr, gv, -⟩
  have gh : Good cHeap h := gh
  have gr : (0 : Int) ≤ room ∧ room ≤ 255 := gr
  have hw : ∀ v : Val, v ∈ vs → -9223372036854775808 ≤ v.2.1 ∧ v.2.1 < 9223372036854775808 := fun v hv => by
    obtain ⟨h1, h2⟩ : (-9223372036854775808 : Int) ≤ v.2.1 ∧ v.2.1 ≤ 9223372036854775807 := (gv.2 v hv).2.1
    omega
  simp only [flotsamlaw17_MarkRooms, flotsamlaw17_MarkRooms_r, awake17, form_eq gh, Option.bind_some, Bool.not_true, cond_false, Bool.cond_decide]
  cases hf : formB h with
  | false => simp only [Bool.not_false, cond_true]
  | true =>
  have f := form_of gh hf
  simp only [Bool.not_true, cond_false, apart_eq f, Option.bind_some]
  cases ha : apB h with
  | false => simp only [Bool.not_false, cond_true]
  | true =>
  simp only [Bool.not_true, cond_false]
  by_cases hl : (h.1.length : Int) > 128
  · rw [if_pos hl]
  by_cases hv : (vs.length : Int) > 50
  · rw [if_neg hl, if_pos hv]
  rw [if_neg hl, if_neg hv]
  have f0 := trn_form f
  have ap : apB (trn h) = true := ha
  rw [show ((h.1, h.2.1, !h.2.2.1, h.2.2.2) : Heap) = trn h from rfl, black15_eq f0]
  simp only [Option.bind_some]
  by_cases hb : (((lst (trn h)).filter (bk (trn h))).length : Int) > 0
  · rw [if_pos hb]
  rw [if_neg hb, wi64_id (by omega) (by omega), rooms_l0 room vs (by omega)]
  have nb := no_black f0 hb
  simp only [Option.bind_some]
  rw [wi64_id (by omega) (by omega)]
  have ht : room.tmod 17 = room % 17 := Int.tmod_eq_emod_of_nonneg gr.1
  rw [show flotsamlaw17_ended (trn h, room.tmod 17, vs, ()) = _ from ended_eq f0 ap nb (g := room.tmod 17) (by omega) (by omega) (by omega) hw]
  rw [show flotsamlaw17_ended (trn h, 16, vs.reverse, ()) = _ from ended_eq f0 ap nb (g := 16) (by omega) (by omega) (by rw [List.length_reverse]; omega) (fun v hv => hw v (List.mem_reverse.1 hv))]
  simp only [Option.bind_some, cond_true]
  have er : rchB (trn h) vs.reverse = rchB (trn h) vs := by
    funext a
    refine Bool.eq_iff_iff.2 ?_
    rw [rchB_iff, rchB_iff]
    exact ⟨rch_more fun p hp => by unfold named at *; rw [List.any_reverse] at hp; exact hp, rch_more fun p hp => by unfold named at *; rw [List.any_reverse]; exact hp⟩
  rw [er, same7_self (f0.pn _)]
  rfl
end Go.Proofs.YtdiogegolnoeoaaDoor.Den
