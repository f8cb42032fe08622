/- Pure laws: markers that may be looked at; a value noted; a new marker; markers alike. -/
import Derived.Test.YtdiogegolnoeoaaDoorDenVb
namespace Go.Proofs.YtdiogegolnoeoaaDoor.Den
open Go
set_option linter.unusedVariables false
set_option linter.unusedSimpArgs false
set_option maxRecDepth 100000

theorem field8_code {h : Heap} (f : FormP h) (a i : Int) : ∃ e, flotsamref08_Field (h, a, i, ()) = some (fldV h a i, e, ()) ∧ (e = 0 ↔ fe h a i = 0) := by
  by_cases he : fe h a i = 0
  · obtain ⟨ho, i0, i1⟩ := fe_ok he
    refine ⟨0, ?_, by simp [he]⟩
    rw [field8_eq f ho i0 i1, fldV, if_pos he]
    obtain ⟨w0, w1⟩ := word_at f (a + 1 + i).toNat
    rw [wg_rg w0 w1]
  · have hz : fldV h a i = zv := by unfold fldV; rw [if_neg he]
    rw [hz]
    simp only [flotsamref08_Field, flotsamref08_Field_r, objGet8_eq f, Option.bind_some, Bool.cond_decide]
    by_cases ho : (og h a).2.1 = true
    · simp only [ho, Bool.not_true, cond_false]
      by_cases i0 : i < 0
      · rw [if_pos i0]; exact ⟨_, rfl, by simp [he]⟩
      · rw [if_neg i0, if_pos]
        · exact ⟨_, rfl, by simp [he]⟩
        · apply Int.not_lt.1
          intro hlt
          apply he
          unfold fe
          rw [if_pos ho, if_pos ⟨by omega, hlt⟩]
    · simp only [Bool.not_eq_true] at ho
      simp only [ho, Bool.not_false, cond_true]
      exact ⟨_, rfl, by simp [he]⟩
/-- Is a marker right beside a heap? -/
def rtB (h : Heap) (m : MarkT) : Bool := m.2.1.all grB && (grB m.1 && (decide (-1 ≤ m.2.2.2.2.2.1 ∧ m.2.2.2.2.2.1 ≤ h.1.length) && (if m.2.2.2.1 = -1 then decide (m.2.2.2.2.1 = 0) else decide (fe h m.2.2.2.1 m.2.2.2.2.1 = 0))))
theorem right17_eq {h : Heap} (f : FormP h) (m : MarkT) (hb : m.2.1.length ≤ 1000000) : flotsamref17_Right (h, m, ()) = some (rtB h m, ()) := by
  have key : flotsamref17_Right_l0 (0, h, m, ()) = some (if m.2.1.all grB = true then .out (h, m, ()) else .ret (false, ())) := by
    have key : ∃ l, flotsamref17_Right_l0 (0, h, m, ()) = some l ∧ l = (if m.2.1.all grB = true then .out (h, m, ()) else .ret (false, ())) := by
      unfold flotsamref17_Right_l0
      refine iterL_rule (fun n x => ∃ i : Nat, i ≤ m.2.1.length ∧ n = m.2.1.length - i ∧ x = ((i : Int), h, m, ()) ∧ ∀ j (hj : j < m.2.1.length), j < i → grB m.2.1[j] = true) ?_ _ m.2.1.length _ (by omega) ⟨0, by omega, rfl, rfl, fun j _ hj => by omega⟩
      rintro n x ⟨i, i1, rfl, rfl, hz⟩
      simp only [flotsamref17_Right_s0, flotsamref17_Right_s0r, Bool.cond_decide, greyRight_eq, Option.bind_some]
      by_cases hi : i < m.2.1.length
      · rw [if_pos (by omega), if_pos (by omega), if_pos (by omega), Int.toNat_natCast, get_d _ _ _ hi, wi64_id (by omega) (by omega)]
        cases e : grB m.2.1[i] with
        | false =>
          refine .inr ⟨_, rfl, ?_⟩
          rw [if_neg]
          intro h
          rw [List.all_eq_true.1 h _ (List.getElem_mem hi)] at e
          cases e
        | true =>
          refine .inl ⟨m.2.1.length - (i + 1), _, by omega, rfl, i + 1, by omega, rfl, rfl, fun j hj hj2 => ?_⟩
          by_cases e' : j = i
          · subst e'; exact e
          · exact hz j hj (by omega)
      · rw [if_neg (by omega)]
        refine .inr ⟨_, rfl, ?_⟩
        rw [if_pos]
        rw [List.all_eq_true]
        intro x hx
        obtain ⟨j, hj, rfl⟩ := List.getElem_of_mem hx
        exact hz j hj (by omega)
    obtain ⟨l, e, rfl⟩ := key
    exact e
  simp only [flotsamref17_Right, flotsamref17_Right_r, key, Option.bind_some, rtB]
  cases ha : m.2.1.all grB with
  | false => rfl
  | true =>
    simp only [if_true, greyRight_eq, Option.bind_some, Bool.true_and, Bool.cond_decide, ibeq]
    cases hg : grB m.1 with
    | false => rfl
    | true =>
      simp only [Bool.not_true, cond_false, Bool.true_and]
      by_cases c1 : m.2.2.2.2.2.1 < -1
      · rw [if_pos c1, decide_eq_false (by omega), Bool.false_and]
      by_cases c2 : m.2.2.2.2.2.1 > (h.1.length : Int)
      · rw [if_neg c1, if_pos c2, decide_eq_false (by omega), Bool.false_and]
      rw [if_neg c1, if_neg c2, decide_eq_true (p := -1 ≤ m.2.2.2.2.2.1 ∧ m.2.2.2.2.2.1 ≤ (h.1.length : Int)) (by omega), Bool.true_and]
      by_cases ho : m.2.2.2.1 = -1
      · rw [if_pos ho, if_pos ho]
      · rw [if_neg ho, if_neg ho]
        obtain ⟨e, e1, e2⟩ := field8_code f m.2.2.2.1 m.2.2.2.2.1
        rw [e1]
        simp only [Option.bind_some]
        rw [decide_eq_decide.2 e2]
theorem few_eq (m : MarkT) : ∃ r, flotsamref17_Few (m, ()) = some (r, ()) ∧ (r = true → m.1.2.1.length ≤ 20 ∧ m.2.1.length ≤ 10 ∧ m.2.2.1.length ≤ 300 ∧ ∀ g ∈ m.2.1, g.2.1.length ≤ 20) := by
  have key : ∃ l, flotsamref17_Few_l0 (0, m, ()) = some l ∧ (l = .ret (false, ()) ∨ (l = .out (m, ()) ∧ (m.2.1.length ≤ 20 → ∀ j (hj : j < m.2.1.length), m.2.1[j].2.1.length ≤ 20))) := by
    unfold flotsamref17_Few_l0
    refine iterL_rule (fun n x => ∃ i : Nat, i ≤ m.2.1.length ∧ i ≤ 20 ∧ n = 20 - i ∧ x = ((i : Int), m, ()) ∧ ∀ j (hj : j < m.2.1.length), j < i → m.2.1[j].2.1.length ≤ 20) ?_ _ 20 _ (by omega) ⟨0, by omega, by omega, rfl, rfl, fun j _ hj => by omega⟩
    rintro n x ⟨i, i1, i2, rfl, rfl, hz⟩
    · simp only [flotsamref17_Few_s0, flotsamref17_Few_s0r, Bool.cond_decide]
      by_cases hi : i < m.2.1.length
      · by_cases h20 : i < 20
        · rw [if_pos (by omega), if_pos (by omega), if_pos (by omega), if_pos (by omega), Int.toNat_natCast, get_d _ _ _ hi, wi64_id (by omega) (by omega)]
          by_cases e : ((m.2.1[i].2.1.length : Int) > 20)
          · rw [if_pos e]
            exact .inr ⟨_, rfl, .inl rfl⟩
          · rw [if_neg e]
            refine .inl ⟨20 - (i + 1), _, by omega, rfl, i + 1, by omega, by omega, rfl, rfl, fun j hj hj2 => ?_⟩
            by_cases e' : j = i
            · subst e'; omega
            · exact hz j hj (by omega)
        · rw [if_pos (by omega), if_neg (by omega)]
          exact .inr ⟨_, rfl, .inr ⟨rfl, fun h j hj => by omega⟩⟩
      · rw [if_neg (by omega)]
        exact .inr ⟨_, rfl, .inr ⟨rfl, fun h j hj => hz j hj (by omega)⟩⟩
  obtain ⟨l, e, rfl | ⟨rfl, hz⟩⟩ := key
  · exact ⟨false, by simp only [flotsamref17_Few, flotsamref17_Few_r, e, Option.bind_some], fun h => by cases h⟩
  · simp only [flotsamref17_Few, flotsamref17_Few_r, e, Option.bind_some, Bool.cond_decide]
    by_cases h1 : (m.1.2.1.length : Int) ≤ 20
    · by_cases h2 : (m.2.1.length : Int) ≤ 10
      · rw [if_pos h1, if_pos h2]
        refine ⟨_, rfl, fun h3 => ?_⟩
        have h3 := of_decide_eq_true h3
        refine ⟨by omega, by omega, by omega, fun g hg => ?_⟩
        obtain ⟨j, hj, rfl⟩ := List.getElem_of_mem hg
        exact hz (by omega) j hj
      · rw [if_pos h1, if_neg h2]
        exact ⟨_, rfl, fun h => by cases h⟩
    · rw [if_neg h1]
      exact ⟨_, rfl, fun h => by cases h⟩
theorem MkP.of {h : Heap} {m : MarkT} (gm : Good cMarker m) (hr : rtB h m = true) (hb : m.2.1.length ≤ 10) (hv : m.2.2.1.length ≤ 1000) : MkP h m := by
  unfold rtB at hr
  simp only [Bool.and_eq_true, List.all_eq_true, decide_eq_true_eq] at hr
  obtain ⟨r1, r2, r3, r4⟩ := hr
  obtain ⟨g1, g2, g3, g4⟩ : Good cGrey m.1 ∧ Good (.sl cGrey) m.2.1 ∧ Good (.sl cVal) m.2.2.1 ∧ True := ⟨gm.1, gm.2.1, gm.2.2.1, trivial⟩
  have gi : ∀ g : Grey, Good cGrey g → grB g = true → ∀ a ∈ g.2.1, inI a := fun g gg hg a ha => by
    have h0 := (grey_of hg).2 a ha
    have h1 : (-9223372036854775808 : Int) ≤ a ∧ a ≤ 9223372036854775807 := gg.2.1.2 a ha
    exact ⟨h0, by omega⟩
  refine ⟨(grey_of r2).1, gi _ g1 r2, fun g hg => (grey_of (r1 g hg)).1, fun g hg => gi g (g2.2 g hg) (r1 g hg), hb, hv, fun v hv => ?_, r3, ?_⟩
  · obtain ⟨h1, h2⟩ : (-9223372036854775808 : Int) ≤ v.2.1 ∧ v.2.1 ≤ 9223372036854775807 := (g3.2 v hv).2.1
    omega
  · by_cases ho : m.2.2.2.1 = -1
    · rw [if_pos ho] at r4
      exact .inl ⟨ho, of_decide_eq_true r4⟩
    · rw [if_neg ho] at r4
      exact .inr (of_decide_eq_true r4)
theorem GreyP.grB {g : Grey} (p : GreyP g) (hi : ∀ a ∈ g.2.1, inI a) : grB g = true := by
  unfold Den.grB
  rw [Bool.and_eq_true, List.all_eq_true]
  exact ⟨decide_eq_true ⟨p.r0, p.r16, p.len⟩, fun a ha => decide_eq_true (hi a ha).1⟩
theorem MkP.rtB {h : Heap} {m : MarkT} (p : MkP h m) : rtB h m = true := by
  unfold Den.rtB
  rw [List.all_eq_true.2 fun g hg => (p.b g hg).grB (p.bi g hg), p.g.grB p.gi, decide_eq_true p.cur]
  simp only [Bool.true_and]
  rcases p.ob with ⟨h1, h2⟩ | h1
  · rw [if_pos h1, decide_eq_true h2]
  · have hok := (fe_ok h1).1
    have := fndB_rng (og_ok hok).1
    rw [if_neg (by omega)]
    exact decide_eq_true h1
theorem fits17 {h : Heap} {m : MarkT} (gh : Good cHeap h) (gm : Good cMarker m) : ∃ r, flotsamlaw17_fits (h, m, ()) = some (r, ()) ∧ (r = true → FormP h ∧ h.1.length ≤ 128 ∧ MkP h m ∧ m.2.2.1.length ≤ 300) := by
  simp only [flotsamlaw17_fits, flotsamlaw17_fits_r, form_eq gh, Option.bind_some, Bool.cond_decide]
  cases hf : formB h with
  | false => exact ⟨false, rfl, fun h => by cases h⟩
  | true =>
  have f := form_of gh hf
  simp only [cond_true]
  by_cases hl : (h.1.length : Int) ≤ 128
  · rw [if_pos hl]
    obtain ⟨r, e1, e2⟩ := few_eq m
    rw [e1]
    simp only [Option.bind_some]
    cases r with
    | false => exact ⟨false, rfl, fun h => by cases h⟩
    | true =>
      obtain ⟨q1, q2, q3, q4⟩ := e2 rfl
      simp only [cond_true]
      rw [right17_eq f m (by omega)]
      exact ⟨_, rfl, fun hr => ⟨f, by omega, MkP.of gm hr q2 (by omega), q3⟩⟩
  · rw [if_neg hl]
    exact ⟨false, rfl, fun h => by cases h⟩
theorem awake17 : flotsamlaw17_awake () = some (true, ()) := by kernel_rfl
/-- A value is noted. -/
def nt (h : Heap) (m : MarkT) (i : Nat) (v : Val) : Heap × MarkT := ((sh h (m.2.1.getD i (0, [], ())) v).1, (m.1, m.2.1.set i (sh h (m.2.1.getD i (0, [], ())) v).2.1, m.2.2.1, m.2.2.2.1, m.2.2.2.2.1, m.2.2.2.2.2.1, m.2.2.2.2.2.2.1 || (sh h (m.2.1.getD i (0, [], ())) v).2.2.1, ()))
theorem note_eq {h : Heap} (f : FormP h) {m : MarkT} (p : MkP h m) {i : Nat} (hi : i < m.2.1.length) {v : Val} (l : -9223372036854775808 ≤ v.2.1) (u : v.2.1 < 9223372036854775808) : mark_Note (h, m, (i : Int), v, ()) = some ((nt h m i v).1, (nt h m i v).2, ()) := by
  have hb := p.bl
  have n1 : (0 : Int) ≤ (i : Int) := by omega
  have n2 : (i : Int) < (m.2.1.length : Int) := by omega
  have hm : m.2.1.getD i (0, [], ()) ∈ m.2.1 := by rw [get_d _ _ _ hi]; exact List.getElem_mem hi
  simp only [mark_Note, mark_Note_r, Bool.cond_decide, Int.toNat_natCast]
  rw [if_pos n1, if_pos n2, shade_eq f (p.b _ hm) l u, cloneG_eq (by omega)]
  simp only [Option.bind_some]
  rw [if_pos n1, if_pos n2]
  simp only [nt]
  cases m.2.2.2.2.2.2.1 with
  | true => rfl
  | false => rfl
theorem new17_eq {g : Int} (g0 : 0 ≤ g) (g1 : g ≤ 16) {bs : List Int} (hb : bs.length ≤ 10) (hr : ∀ b ∈ bs, 0 ≤ b ∧ b ≤ 16) {vs : List Val} (hv : vs.length ≤ 1000) :
    mark_New (g, bs, vs, ()) = some (((g, [], ()), bs.map (fun b => (b, [], ())), vs, -1, 0, -1, false, ()), true, ()) := by
  have hl : mark_New_l0 (bs, (bs.length : Int), 0, 0, (), (0, 0, 0, false, ()), g, (), (-1, 0, -1, false, ()), vs, [], [], ()) = some (.out (0, (), (0, 0, 0, false, ()), g, (), (-1, 0, -1, false, ()), vs, [], bs.map (fun b => (b, [], ())), ())) := by
    unfold mark_New_l0
    refine iterL_run bs.length (fun i => (bs, (bs.length : Int), (i : Int), 0, (), (0, 0, 0, false, ()), g, (), (-1, 0, -1, false, ()), vs, [], (bs.take i).map (fun b => (b, [], ())), ())) (fun i hi => ?_) ?_ (by omega) rfl
    · have hg := hr _ (List.getElem_mem hi)
      simp only [mark_New_s0, mark_New_s0r, Bool.cond_decide, Int.toNat_natCast, get_d _ _ _ hi, greyNew_eq hg.1 hg.2, Option.bind_some, Bool.not_true, cond_false]
      rw [if_pos (by omega), if_pos (by omega), if_pos (by omega), if_pos (by rw [List.length_map, List.length_take]; omega), wi64_id (by omega) (by omega), ← List.take_append_getElem hi, List.map_append]
      rfl
    · simp only [mark_New_s0, mark_New_s0r, Bool.cond_decide]
      rw [if_neg (by omega), List.take_length]
  simp only [mark_New, mark_New_r, cloneV_eq (show vs.length ≤ 1000000 by omega), greyNew_eq g0 g1, Option.bind_some, Bool.not_true, cond_false, hl]
theorem same1_self (vs : List Val) (hl : vs.length ≤ 1000000) : flotsamref01_Same (vs, vs, ()) = some (true, ()) := by
  have key : flotsamref01_Same_l0 (vs, vs, 0, ()) = some (.out ()) := by
    unfold flotsamref01_Same_l0
    refine iterL_run vs.length (fun i => (vs, vs, (i : Int), ())) (fun i hi => ?_) ?_ (by omega) rfl
    · simp only [flotsamref01_Same_s0, flotsamref01_Same_s0r, Bool.cond_decide]
      rw [if_pos (by omega), if_pos (by omega), if_pos (by omega), if_pos (by omega), if_pos (by omega), wi64_id (by omega) (by omega)]
      simp
    · simp only [flotsamref01_Same_s0, flotsamref01_Same_s0r, Bool.cond_decide]
      rw [if_neg (by omega)]
  simp only [flotsamref01_Same, flotsamref01_Same_r, key, Option.bind_some, ibne, Bool.cond_decide]
  rw [if_neg (by simp)]
theorem same17_self {h : Heap} {m : MarkT} (p : MkP h m) : flotsamref17_Same (m, m, ()) = some (true, ()) := by
  have hb := p.bl
  have hv := p.rl
  have key : flotsamref17_Same_l0 (0, m, m, ()) = some (.out ()) := by
    unfold flotsamref17_Same_l0
    refine iterL_run m.2.1.length (fun i => ((i : Int), m, m, ())) (fun i hi => ?_) ?_ (by omega) rfl
    · have hm : m.2.1[i] ∈ m.2.1 := List.getElem_mem hi
      simp only [flotsamref17_Same_s0, flotsamref17_Same_s0r, Bool.cond_decide, Int.toNat_natCast, get_d _ _ _ hi, same13_self (p.b _ hm), Option.bind_some]
      rw [if_pos (by omega), if_pos (by omega), if_pos (by omega), if_pos (by omega), if_pos (by omega), wi64_id (by omega) (by omega)]
      rfl
    · simp only [flotsamref17_Same_s0, flotsamref17_Same_s0r, Bool.cond_decide]
      rw [if_neg (by omega)]
  have e : (!(m.2.2.2.2.2.2.1 == m.2.2.2.2.2.2.1)) = false := by simp
  simp only [flotsamref17_Same, flotsamref17_Same_r, key, Option.bind_some, ibne, Bool.cond_decide, not_true, if_false, e, cond_false, same13_self p.g, same1_self m.2.2.1 (by omega), Bool.not_true]
end Go.Proofs.YtdiogegolnoeoaaDoor.Den
