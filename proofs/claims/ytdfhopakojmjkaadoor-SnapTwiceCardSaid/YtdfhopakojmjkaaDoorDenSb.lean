/- Pure laws: a cycle's beginning. -/
import Derived.Test.YtdfhopakojmjkaaDoorDenSa
namespace Go.Proofs.YtdfhopakojmjkaaDoor.Den
open Go
set_option linter.unusedVariables false
set_option linter.unusedSimpArgs false
set_option maxRecDepth 100000

abbrev MutT : Type := (List Val) × Int × (Int × Int × Val) × Int × Val × (List Int) × Unit
abbrev MarkT : Type := Grey × (List Grey) × (List Val) × Int × Int × Int × Bool × Unit
def mz : MutT := ([], 0, (0, 0, 0, 0, ()), 0, (0, 0, ()), List.replicate 4 0, ())
def regs (m : MutT) : List Val := if m.2.1 = 2 then [(2, m.2.2.2.1, ())] else if m.2.1 = 3 then [m.2.2.2.2.1] else if m.2.1 = 4 then [(2, m.2.2.2.1, ()), m.2.2.2.2.1] else []
def held1 (m : MutT) : List Val := m.1 ++ regs m
def heldL (ms : List MutT) : List Val := ms.flatMap held1
def fldV (h : Heap) (a i : Int) : Val := if fe h a i = 0 then wg (h.1.getD (a + 1 + i).toNat 0) else zv
def pend1 (h : Heap) (m : MutT) : List Val := if m.2.1 = 4 then [fldV h m.2.2.2.1 m.2.2.1.2.2.1] else []
def pendL (h : Heap) (ms : List MutT) : List Val := ms.flatMap (pend1 h)
structure MsP (ms : List MutT) : Prop where
  len : ms.length ≤ 10
  st : ∀ m : MutT, m ∈ ms → m.1.length ≤ 20
  obj : ∀ m : MutT, m ∈ ms → -9223372036854775808 ≤ m.2.2.2.1 ∧ m.2.2.2.1 < 9223372036854775808
theorem flat_take {α β : Type} (f : α → List β) (l : List α) (i : Nat) (hi : i < l.length) : (l.take (i + 1)).flatMap f = (l.take i).flatMap f ++ f l[i] := by
  have : l.take (i + 1) = l.take i ++ [l[i]] := (List.take_append_getElem hi).symm
  rw [this, List.flatMap_append]; simp
theorem regs_len (m : MutT) : (regs m).length ≤ 2 := by
  unfold regs; split
  · simp
  · split
    · simp
    · split <;> simp
theorem heldL_len : ∀ {ms : List MutT}, (∀ m : MutT, m ∈ ms → m.1.length ≤ 20) → (heldL ms).length ≤ 22 * ms.length
  | [], _ => by simp [heldL]
  | m :: ms, h => by
    have h1 := h m List.mem_cons_self
    have h2 := heldL_len (ms := ms) (fun x hx => h x (List.mem_cons_of_mem _ hx))
    have h3 := regs_len m
    unfold heldL at h2 ⊢
    rw [List.flatMap_cons, List.length_append, held1, List.length_append, List.length_cons]
    omega
theorem pendL_len (h : Heap) : ∀ (ms : List MutT), (pendL h ms).length ≤ ms.length
  | [] => by simp [pendL]
  | m :: ms => by
    have h2 := pendL_len h ms
    have h3 : (pend1 h m).length ≤ 1 := by unfold pend1; split <;> simp
    unfold pendL at h2 ⊢
    rw [List.flatMap_cons, List.length_append, List.length_cons]
    omega
theorem MsP.take {ms : List MutT} (p : MsP ms) (h : Heap) (i : Nat) : (heldL (ms.take i)).length ≤ 220 ∧ (pendL h (ms.take i)).length ≤ 10 := by
  have h1 := heldL_len (ms := ms.take i) (fun m hm => p.st m (List.mem_of_mem_take hm))
  have h2 := pendL_len h (ms.take i)
  have := p.len
  rw [List.length_take] at h1 h2
  omega
theorem registers_eq (m : MutT) : snap_Registers (m, ()) = some (regs m, ()) := by
  simp only [snap_Registers, snap_Registers_r, snap_list, snap_list_r, ibeq, Bool.cond_decide, Option.bind_some, regs]
  split
  · rfl
  · split
    · rfl
    · split <;> rfl
theorem registers18_eq (m : MutT) : flotsamref18_Registers (m, ()) = some (regs m, ()) := by
  simp only [flotsamref18_Registers, flotsamref18_Registers_r, ibeq, Bool.cond_decide, regs]
  by_cases h2 : m.2.1 = 2
  · simp [h2]
  by_cases h4 : m.2.1 = 4
  · simp [h4]
  by_cases h3 : m.2.1 = 3
  · simp [h3]
  · simp [h2, h3, h4]
theorem held_eq {ms : List MutT} (p : MsP ms) : snap_Held (ms, ()) = some (heldL ms, ()) := by
  have hn := p.len
  have hr : snap_Held_l0 (ms, (ms.length : Int), 0, [], ()) = some (.out (heldL ms, ())) := by
    unfold snap_Held_l0
    refine iterL_run ms.length (fun i => (ms, (ms.length : Int), (i : Int), heldL (ms.take i), ())) (fun i hi => ?_) ?_ (by omega) rfl
    · have hl := (p.take ([], [], false, ()) i).1
      have hm := p.st _ (List.getElem_mem hi)
      have hg := regs_len ms[i]
      simp only [snap_Held_s0, snap_Held_s0r, Bool.cond_decide, Int.toNat_natCast, registers_eq, Option.bind_some]
      simp only [show (([] : List Val), (0 : Int), ((0 : Int), (0 : Int), (0 : Int), (0 : Int), ()), (0 : Int), ((0 : Int), (0 : Int), ()), List.replicate 4 (0 : Int), ()) = mz from rfl, get_d ms i mz hi, List.length_append]
      rw [if_pos (by omega), if_pos (by omega), if_pos (by omega), if_pos (by omega), if_pos (by omega), wi64_id (by omega) (by omega), heldL, heldL, flat_take held1 ms i hi, List.append_assoc]
      rfl
    · simp only [snap_Held_s0, snap_Held_s0r, Bool.cond_decide]
      rw [if_neg (by omega), List.take_of_length_le (Nat.le_refl _)]
  simp only [snap_Held, snap_Held_r, hr, Option.bind_some]
theorem held18_eq {ms : List MutT} (p : MsP ms) : flotsamref18_Held (ms, ()) = some (heldL ms, ()) := by
  have hn := p.len
  have hr : flotsamref18_Held_l0 (ms, 0, [], ()) = some (.out (heldL ms, ())) := by
    unfold flotsamref18_Held_l0
    refine iterL_run ms.length (fun i => (ms, (i : Int), heldL (ms.take i), ())) (fun i hi => ?_) ?_ (by omega) rfl
    · have hl := (p.take ([], [], false, ()) i).1
      have hm := p.st _ (List.getElem_mem hi)
      have hg := regs_len ms[i]
      simp only [flotsamref18_Held_s0, flotsamref18_Held_s0r, Bool.cond_decide, Int.toNat_natCast, registers18_eq, Option.bind_some]
      simp only [show (([] : List Val), (0 : Int), ((0 : Int), (0 : Int), (0 : Int), (0 : Int), ()), (0 : Int), ((0 : Int), (0 : Int), ()), List.replicate 4 (0 : Int), ()) = mz from rfl, get_d ms i mz hi, List.length_append]
      rw [if_pos (by omega), if_pos (by omega), if_pos (by omega), if_pos (by omega), if_pos (by omega), if_pos (by omega), if_pos (by omega), wi64_id (by omega) (by omega), heldL, heldL, flat_take held1 ms i hi, List.append_assoc]
      rfl
    · simp only [flotsamref18_Held_s0, flotsamref18_Held_s0r, Bool.cond_decide]
      rw [if_neg (by omega), List.take_of_length_le (Nat.le_refl _)]
  simp only [flotsamref18_Held, flotsamref18_Held_r, hr, Option.bind_some]

/-! Words as values: two texts. -/
theorem wg_rg {w : Int} (h0 : 0 ≤ w) (h1 : w < 18446744073709551616) : wg w = rg w := by
  unfold wg rg
  by_cases hw : w = 0
  · rw [if_pos hw, if_pos hw]; rfl
  rw [if_neg hw, if_neg hw]
  have e1 : bitsI .and .u64 w 1 = w % 2 := by
    have := and_mask h0 h1 1 (by omega)
    exact this
  have e2 : shiftI false .u64 w 1 = w / 2 := by
    simp only [shiftI, cond_false, IntKind.bits]
    rw [Int.fdiv_eq_ediv_of_nonneg _ (by decide)]
    rfl
  rw [e1, e2, Int.tmod_eq_emod_of_nonneg h0, Int.tdiv_eq_ediv_of_nonneg h0, wu64_id (n := w / 2) (by omega) (by omega), wi64_id (n := w / 2) (by omega) (by omega)]
  by_cases hc : w % 2 = 1
  · rw [if_pos hc, if_pos hc]
  · rw [if_neg hc, if_neg hc, wu64_id (by omega) (by omega)]
theorem fe_ok {h : Heap} {a i : Int} (e : fe h a i = 0) : (og h a).2.1 = true ∧ 0 ≤ i ∧ i < cnt h a := by
  unfold fe at e
  split at e
  · split at e
    · rename_i x y; exact ⟨x, y⟩
    · cases e
  · cases e
theorem field8_all {h : Heap} (f : FormP h) (a i : Int) : ∃ e, flotsamref08_Field (h, a, i, ()) = some (fldV h a i, e, ()) := by
  by_cases he : fe h a i = 0
  · obtain ⟨ho, i0, i1⟩ := fe_ok he
    refine ⟨0, ?_⟩
    rw [field8_eq f ho i0 i1, fldV, if_pos he]
    obtain ⟨w0, w1⟩ := word_at f (a + 1 + i).toNat
    rw [wg_rg w0 w1]
  · have hz : fldV h a i = zv := by unfold fldV; rw [if_neg he]
    rw [hz]
    simp only [flotsamref08_Field, flotsamref08_Field_r, objGet8_eq f, Option.bind_some, Bool.cond_decide]
    by_cases ho : (og h a).2.1 = true
    · simp only [ho, Bool.not_true, cond_false]
      by_cases i0 : i < 0
      · rw [if_pos i0]; exact ⟨_, rfl⟩
      · rw [if_neg i0, if_pos]
        · exact ⟨_, rfl⟩
        · apply Int.not_lt.1
          intro hlt
          apply he
          unfold fe
          rw [if_pos ho, if_pos ⟨by omega, hlt⟩]
    · simp only [Bool.not_eq_true] at ho
      simp only [ho, Bool.not_false, cond_true]
      exact ⟨_, rfl⟩
theorem pending_eq {h : Heap} (f : FormP h) {ms : List MutT} (p : MsP ms) : snap_Pending (h, ms, ()) = some (pendL h ms, ()) := by
  have hn := p.len
  have hr : snap_Pending_l0 (ms, (ms.length : Int), 0, h, [], ()) = some (.out (pendL h ms, ())) := by
    unfold snap_Pending_l0
    refine iterL_run ms.length (fun i => (ms, (ms.length : Int), (i : Int), h, pendL h (ms.take i), ())) (fun i hi => ?_) ?_ (by omega) rfl
    · have hl := (p.take h i).2
      obtain ⟨o1, o2⟩ := p.obj _ (List.getElem_mem hi)
      simp only [snap_Pending_s0, snap_Pending_s0r, Bool.cond_decide, Int.toNat_natCast, ibeq]
      simp only [show (([] : List Val), (0 : Int), ((0 : Int), (0 : Int), (0 : Int), (0 : Int), ()), (0 : Int), ((0 : Int), (0 : Int), ()), List.replicate 4 (0 : Int), ()) = mz from rfl, get_d ms i mz hi, field_eq f o1 o2, Option.bind_some]
      rw [if_pos (by omega), if_pos (by omega), if_pos (by omega), wi64_id (by omega) (by omega), pendL, pendL, flat_take (pend1 h) ms i hi]
      by_cases e : ms[i].2.1 = 4
      · rw [if_pos e, if_pos (by unfold pendL at hl; omega), pend1, if_pos e]; rfl
      · rw [if_neg e, pend1, if_neg e, List.append_nil]; rfl
    · simp only [snap_Pending_s0, snap_Pending_s0r, Bool.cond_decide]
      rw [if_neg (by omega), List.take_of_length_le (Nat.le_refl _)]
  simp only [snap_Pending, snap_Pending_r, hr, Option.bind_some]
theorem pending18_eq {h : Heap} (f : FormP h) {ms : List MutT} (p : MsP ms) : flotsamref18_Pending (h, ms, ()) = some (pendL h ms, ()) := by
  have hn := p.len
  have hr : flotsamref18_Pending_l0 (ms, 0, h, [], ()) = some (.out (pendL h ms, ())) := by
    unfold flotsamref18_Pending_l0
    refine iterL_run ms.length (fun i => (ms, (i : Int), h, pendL h (ms.take i), ())) (fun i hi => ?_) ?_ (by omega) rfl
    · have hl := (p.take h i).2
      obtain ⟨x, hx⟩ := field8_all f ms[i].2.2.2.1 ms[i].2.2.1.2.2.1
      simp only [flotsamref18_Pending_s0, flotsamref18_Pending_s0r, Bool.cond_decide, Int.toNat_natCast, ibeq]
      simp only [show (([] : List Val), (0 : Int), ((0 : Int), (0 : Int), (0 : Int), (0 : Int), ()), (0 : Int), ((0 : Int), (0 : Int), ()), List.replicate 4 (0 : Int), ()) = mz from rfl, get_d ms i mz hi, hx, Option.bind_some]
      rw [if_pos (by omega), if_pos (by omega), if_pos (by omega), wi64_id (by omega) (by omega), pendL, pendL, flat_take (pend1 h) ms i hi]
      by_cases e : ms[i].2.1 = 4
      · rw [if_pos e, if_pos (by omega), if_pos (by omega), if_pos (by omega), if_pos (by omega), if_pos (by unfold pendL at hl; omega), pend1, if_pos e]; rfl
      · rw [if_neg e, pend1, if_neg e, List.append_nil]; rfl
    · simp only [flotsamref18_Pending_s0, flotsamref18_Pending_s0r, Bool.cond_decide]
      rw [if_neg (by omega), List.take_of_length_le (Nat.le_refl _)]
  simp only [flotsamref18_Pending, flotsamref18_Pending_r, hr, Option.bind_some]

/-! Rows repeated, rows put together. -/
theorem repeat_eq (b : Int) {n : Nat} (hn : n ≤ 10) : slices_Repeat ([b], (n : Int), ()) = some (List.replicate n b, ()) := by
  obtain rfl | rfl | rfl | rfl | rfl | rfl | rfl | rfl | rfl | rfl | rfl : n = 0 ∨ n = 1 ∨ n = 2 ∨ n = 3 ∨ n = 4 ∨ n = 5 ∨ n = 6 ∨ n = 7 ∨ n = 8 ∨ n = 9 ∨ n = 10 := by omega
  all_goals kernel_rfl
theorem concat_eq {a b : List Val} (ha : a.length ≤ 1000) (hb : b.length ≤ 1000) : slices_Concat ([a, b], ()) = some (a ++ b, ()) := by
  have w1 : wi64 1 = 1 := by kernel_rfl
  have w2 : wi64 2 = 2 := by kernel_rfl
  have wa : wi64 (a.length : Int) = a.length := wi64_id (by omega) (by omega)
  have wb : wi64 ((a.length : Int) + (b.length : Int)) = a.length + b.length := wi64_id (by omega) (by omega)
  have s0 : slices_Concat_s0 ([a, b], 0, [a, b], 2, 0, ()) = some (.next ([a, b], (a.length : Int), [a, b], 2, 1, ())) := by
    have n1 : ¬ ((a.length : Int) < 0) := by omega
    simp [slices_Concat_s0, slices_Concat_s0r, wa, w1, n1]
  have s1 : slices_Concat_s0 ([a, b], (a.length : Int), [a, b], 2, 1, ()) = some (.next ([a, b], ((a.length + b.length : Nat) : Int), [a, b], 2, 2, ())) := by
    have n1 : ¬ ((a.length : Int) + (b.length : Int) < 0) := by omega
    simp [slices_Concat_s0, slices_Concat_s0r, wb, w2, n1]
  have h0 : slices_Concat_l0 ([a, b], 0, [a, b], 2, 0, ()) = some (.out ([a, b], ((a.length + b.length : Nat) : Int), ())) := by
    unfold slices_Concat_l0
    refine iterL_run 2 (fun i => if i = 0 then ([a, b], 0, [a, b], 2, 0, ()) else if i = 1 then ([a, b], (a.length : Int), [a, b], 2, 1, ()) else ([a, b], ((a.length + b.length : Nat) : Int), [a, b], 2, 2, ())) (fun i hi => ?_) ?_ (by omega) rfl
    · obtain rfl | rfl : i = 0 ∨ i = 1 := by omega
      · exact s0
      · exact s1
    · simp only [slices_Concat_s0, slices_Concat_s0r]
      rfl
  have t0 : slices_Concat_s1 ([a, b], 2, 0, [], ()) = some (.next ([a, b], 2, 1, a, ())) := by
    have n1 : a.length * 16 ≤ 140737488355328 := by omega
    simp [slices_Concat_s1, slices_Concat_s1r, w1, n1]
  have t1 : slices_Concat_s1 ([a, b], 2, 1, a, ()) = some (.next ([a, b], 2, 2, a ++ b, ())) := by
    have n1 : (a.length + b.length) * 16 ≤ 140737488355328 := by omega
    simp [slices_Concat_s1, slices_Concat_s1r, w2, n1]
  have h1 : slices_Concat_l1 ([a, b], 2, 0, [], ()) = some (.out (a ++ b, ())) := by
    unfold slices_Concat_l1
    refine iterL_run 2 (fun i => if i = 0 then ([a, b], 2, 0, [], ()) else if i = 1 then ([a, b], 2, 1, a, ()) else ([a, b], 2, 2, a ++ b, ())) (fun i hi => ?_) ?_ (by omega) rfl
    · obtain rfl | rfl : i = 0 ∨ i = 1 := by omega
      · exact t0
      · exact t1
    · simp only [slices_Concat_s1, slices_Concat_s1r]
      rfl
  simp only [slices_Concat, slices_Concat_r, Bool.cond_decide]
  have e2 : (([a, b].length : Nat) : Int) = 2 := rfl
  rw [e2, h0, Option.bind_some]
  dsimp only
  have n0 : ¬ (((a.length + b.length : Nat) : Int) < 0) := by omega
  have n1 : (0 : Int) ≤ ((a.length + b.length : Nat) : Int) := by omega
  have n2 : (((a.length + b.length : Nat) : Int)).toNat * 16 ≤ 140737488355328 := by omega
  have w0 : wi64 (((a.length + b.length : Nat) : Int) - 0) = ((a.length + b.length : Nat) : Int) := by rw [wi64_id (by omega) (by omega)]; omega
  have w3 : wi64 ((a.length + b.length : Nat) : Int) = ((a.length + b.length : Nat) : Int) := wi64_id (by omega) (by omega)
  have e3 : ∀ l : List Val, (l.drop 0).take 0 = [] := fun l => by simp
  rw [if_neg n0]
  simp only [e2, w0, w3, e3, h1, Option.bind_some]
  by_cases hz : ((a.length + b.length : Nat) : Int) > 0
  · rw [if_pos hz, if_pos n1, if_pos n2, if_pos (Int.natCast_nonneg _)]
  · rw [if_neg hz]

/-! The marker. -/
def markM (g b : Int) (n : Nat) (vs : List Val) : MarkT := ((g, [], ()), List.replicate n (b, [], ()), vs, -1, 0, -1, false, ())
theorem greyNew_eq {b : Int} (b0 : 0 ≤ b) (b1 : b ≤ 16) : grey_New (b, ()) = some ((b, [], ()), true, ()) := by
  simp only [grey_New, grey_New_r, Bool.cond_decide]
  rw [if_neg (by omega), if_neg (by omega)]
theorem rep_succ {α : Type} (x : α) (n : Nat) : List.replicate n x ++ [x] = List.replicate (n + 1) x := by
  rw [List.replicate_succ']
theorem markNew_eq {g b : Int} (g0 : 0 ≤ g) (g1 : g ≤ 16) (b0 : 0 ≤ b) (b1 : b ≤ 16) {n : Nat} (hn : n ≤ 10) {vs : List Val} (hv : vs.length ≤ 1000) :
    mark_New (g, List.replicate n b, vs, ()) = some (markM g b n vs, true, ()) := by
  have hc : slices_Clone_api_Value (vs, ()) = some (vs, ()) := by
    simp only [slices_Clone_api_Value, cloneF, Bool.cond_decide]
    rw [if_pos (by omega)]
  have hr : mark_New_l0 (List.replicate n b, ((List.replicate n b).length : Int), 0, 0, (), (0, 0, 0, false, ()), g, (), (-1, 0, -1, false, ()), vs, [], [], ()) = some (.out (0, (), (0, 0, 0, false, ()), g, (), (-1, 0, -1, false, ()), vs, [], List.replicate n (b, [], ()), ())) := by
    unfold mark_New_l0
    refine iterL_run n (fun i => (List.replicate n b, ((List.replicate n b).length : Int), (i : Int), 0, (), (0, 0, 0, false, ()), g, (), (-1, 0, -1, false, ()), vs, [], List.replicate i (b, [], ()), ())) (fun i hi => ?_) ?_ (by omega) rfl
    · have hg : (List.replicate n b).getD i 0 = b := by
        rw [get_d _ _ _ (by rw [List.length_replicate]; exact hi), List.getElem_replicate]
      simp only [mark_New_s0, mark_New_s0r, Bool.cond_decide, Int.toNat_natCast, List.length_replicate, hg, greyNew_eq b0 b1, Option.bind_some, Bool.not_true, cond_false]
      rw [if_pos (by omega), if_pos (by omega), if_pos (by omega), if_pos (by omega), wi64_id (by omega) (by omega), rep_succ]
      rfl
    · simp only [mark_New_s0, mark_New_s0r, Bool.cond_decide, List.length_replicate]
      rw [if_neg (by omega)]
  simp only [mark_New, mark_New_r, hc, greyNew_eq g0 g1, Option.bind_some, Bool.not_true, cond_false, hr]
  rfl
theorem markNew17_eq {g b : Int} {n : Nat} (hn : n ≤ 10) {vs : List Val} (hv : vs.length ≤ 1000) :
    flotsamref17_New (g, List.replicate n b, vs, ()) = some (markM g b n vs, ()) := by
  have hr : flotsamref17_New_l0 (List.replicate n b, 0, 0, (), (0, 0, 0, false, ()), g, (), (-1, 0, -1, false, ()), vs, [], ()) = some (.out (0, (), (0, 0, 0, false, ()), g, (), (-1, 0, -1, false, ()), vs, List.replicate n (b, [], ()), ())) := by
    unfold flotsamref17_New_l0
    refine iterL_run n (fun i => (List.replicate n b, (i : Int), 0, (), (0, 0, 0, false, ()), g, (), (-1, 0, -1, false, ()), vs, List.replicate i (b, [], ()), ())) (fun i hi => ?_) ?_ (by omega) rfl
    · have hg : (List.replicate n b).getD i 0 = b := by
        rw [get_d _ _ _ (by rw [List.length_replicate]; exact hi), List.getElem_replicate]
      simp only [flotsamref17_New_s0, flotsamref17_New_s0r, Bool.cond_decide, Int.toNat_natCast, List.length_replicate, hg]
      rw [if_pos (by omega), if_pos (by omega), if_pos (by omega), if_pos (by omega), wi64_id (by omega) (by omega), rep_succ]
      rfl
    · simp only [flotsamref17_New_s0, flotsamref17_New_s0r, Bool.cond_decide, List.length_replicate]
      rw [if_neg (by omega)]
  simp only [flotsamref17_New, flotsamref17_New_r, Bool.cond_decide, hr]
  rw [if_pos (by omega)]
  rfl
def turnS (h : Heap) : Heap := (h.1, h.2.1, !h.2.2.1, ())
theorem FormP.turn {h : Heap} (f : FormP h) : FormP (turnS h) := ⟨f.n1, f.n16, f.len, f.right, f.word⟩
theorem begin_eq {h : Heap} (f : FormP h) {ms : List MutT} (p : MsP ms) {x y z g b : Int} (g0 : 0 ≤ g) (g1 : g ≤ 16) (b0 : 0 ≤ b) (b1 : b ≤ 16) :
    snap_Begin ((x, y, z, g, b, ()), h, ms, ()) = some (turnS h, markM g b ms.length (heldL ms ++ pendL h ms), ()) := by
  have hn := f.n16
  have hl := f.len
  have hm := p.len
  have h1 := heldL_len p.st
  have h2 := pendL_len h ms
  have c1 : slices_Clone_uint64 (h.1, ()) = some (h.1, ()) := by
    simp only [slices_Clone_uint64, cloneF, Bool.cond_decide]
    rw [if_pos (by omega)]
  have c2 : slices_Clone_api_Span (h.2.1, ()) = some (h.2.1, ()) := by
    simp only [slices_Clone_api_Span, cloneF, Bool.cond_decide]
    rw [if_pos (by omega)]
  simp only [snap_Begin, snap_Begin_r, repeat_eq b hm, held_eq p, pending_eq f p, concat_eq (show (heldL ms).length ≤ 1000 by omega) (show (pendL h ms).length ≤ 1000 by omega), Option.bind_some,
    markNew_eq g0 g1 b0 b1 hm (show (heldL ms ++ pendL h ms).length ≤ 1000 by rw [List.length_append]; omega), c1, c2]
  rfl
theorem begin18_eq {h : Heap} (f : FormP h) {ms : List MutT} (p : MsP ms) {x y z g b : Int} :
    flotsamref18_Begin ((x, y, z, g, b, ()), h, ms, ()) = some (turnS h, markM g b ms.length (heldL ms ++ pendL h ms), ()) := by
  have hn := f.n16
  have hl := f.len
  have hm := p.len
  have h1 := heldL_len p.st
  have h2 := pendL_len h ms
  have hr : flotsamref18_Begin_l0 (ms, 0, (x, y, z, g, b, ()), h, (false, ()), 0, (), (0, 0, 0, false, ()), [], ()) = some (.out (ms, (x, y, z, g, b, ()), h, (false, ()), 0, (), (0, 0, 0, false, ()), List.replicate ms.length b, ())) := by
    unfold flotsamref18_Begin_l0
    refine iterL_run ms.length (fun i => (ms, (i : Int), (x, y, z, g, b, ()), h, (false, ()), 0, (), (0, 0, 0, false, ()), List.replicate i b, ())) (fun i hi => ?_) ?_ (by omega) rfl
    · simp only [flotsamref18_Begin_s0, flotsamref18_Begin_s0r, Bool.cond_decide, List.length_replicate]
      rw [if_pos (by omega), if_pos (by omega), wi64_id (by omega) (by omega), rep_succ]
      rfl
    · simp only [flotsamref18_Begin_s0, flotsamref18_Begin_s0r, Bool.cond_decide]
      rw [if_neg (by omega)]
  simp only [flotsamref18_Begin, flotsamref18_Begin_r, hr, Option.bind_some, held18_eq p, pending18_eq f p, Bool.cond_decide,
    markNew17_eq hm (show (heldL ms ++ pendL h ms).length ≤ 1000 by rw [List.length_append]; omega)]
  rw [if_pos (by omega), if_pos (by omega), if_pos (by omega)]
  rfl

/-! What fits. -/
theorem few_eq (ms : List MutT) : ∃ b, flotsamref18_Few (ms, ()) = some (b, ()) ∧ (b = true → ms.length ≤ 10 ∧ ∀ m : MutT, m ∈ ms → m.1.length ≤ 20) := by
  have key : ∃ l, flotsamref18_Few_l0 (ms, 0, ()) = some l ∧ (l = .ret (false, ()) ∨ (l = .out (ms, ()) ∧ ∀ j (hj : j < ms.length), j < 20 → ms[j].1.length ≤ 20)) := by
    unfold flotsamref18_Few_l0
    refine iterL_rule (fun n x => ∃ i : Nat, i ≤ 20 ∧ n = 20 - i ∧ x = (ms, (i : Int), ()) ∧ ∀ j (hj : j < ms.length), j < i → ms[j].1.length ≤ 20) ?_ _ 20 _ (by omega) ⟨0, by omega, rfl, rfl, fun j _ hj => by omega⟩
    rintro n x ⟨i, i1, rfl, rfl, hi⟩
    simp only [flotsamref18_Few_s0, flotsamref18_Few_s0r, Bool.cond_decide, Int.toNat_natCast]
    simp only [show (([] : List Val), (0 : Int), ((0 : Int), (0 : Int), (0 : Int), (0 : Int), ()), (0 : Int), ((0 : Int), (0 : Int), ()), List.replicate 4 (0 : Int), ()) = mz from rfl]
    by_cases hn : i < ms.length
    · by_cases h20 : i < 20
      · rw [if_pos (by omega), if_pos (by omega), if_pos (by omega), if_pos (by omega), get_d ms i mz hn]
        by_cases hc : (ms[i].1.length : Int) > 20
        · rw [if_pos hc]
          exact .inr ⟨_, rfl, .inl rfl⟩
        · rw [if_neg hc, wi64_id (by omega) (by omega)]
          refine .inl ⟨20 - (i + 1), _, by omega, rfl, i + 1, by omega, rfl, rfl, fun j h1 h2 => ?_⟩
          by_cases e : j = i
          · subst e; omega
          · exact hi j h1 (by omega)
      · rw [if_pos (by omega), if_neg (by omega)]
        exact .inr ⟨_, rfl, .inr ⟨rfl, fun j h1 h2 => hi j h1 (by omega)⟩⟩
    · rw [if_neg (by omega)]
      exact .inr ⟨_, rfl, .inr ⟨rfl, fun j h1 h2 => hi j h1 (by omega)⟩⟩
  obtain ⟨l, e, hl⟩ := key
  simp only [flotsamref18_Few, flotsamref18_Few_r, e, Option.bind_some]
  rcases hl with rfl | ⟨rfl, hl⟩
  · exact ⟨_, rfl, fun h => by cases h⟩
  · refine ⟨_, rfl, fun h => ?_⟩
    have h : (ms.length : Int) ≤ 10 := of_decide_eq_true h
    refine ⟨by omega, fun m hm => ?_⟩
    obtain ⟨j, hj, rfl⟩ := List.mem_iff_getElem.1 hm
    exact hl j hj (by omega)
abbrev cMut : U := (.cons (.sl cVal) (.cons cI (.cons (.cons cI (.cons cI cVal)) (.cons cI (.cons cVal (.cons (.arr 4 cI) .nil))))))
theorem fits_eq {h : Heap} {ms : List MutT} (gh : Good cHeap h) (gm : Good (.sl cMut) ms) : ∃ b, flotsamlaw18_fits (h, ms, ()) = some (b, ()) ∧ (b = true → FormP h ∧ MsP ms) := by
  obtain ⟨b, e, hb⟩ := few_eq ms
  simp only [flotsamlaw18_fits, flotsamlaw18_fits_r, form_eq gh, Option.bind_some, e]
  cases hf : formB h with
  | false => exact ⟨_, rfl, fun h => by cases h⟩
  | true =>
    refine ⟨_, rfl, fun h => ?_⟩
    obtain ⟨h1, h2⟩ := hb h
    refine ⟨form_of gh hf, h1, h2, fun m hm => ?_⟩
    obtain ⟨a, b⟩ : (-9223372036854775808 : Int) ≤ m.2.2.2.1 ∧ m.2.2.2.1 ≤ 9223372036854775807 := (gm.2 m hm).2.2.2.1
    exact ⟨a, by omega⟩
theorem awake18 : flotsamlaw18_awake () = some (true, ()) := by kernel_rfl

/-! Alike. -/
theorem same01_self {a : List Val} (ha : a.length ≤ 1000) : flotsamref01_Same (a, a, ()) = some (true, ()) := by
  have hr : flotsamref01_Same_l0 (a, a, 0, ()) = some (.out ()) := by
    unfold flotsamref01_Same_l0
    refine iterL_run a.length (fun i => (a, a, (i : Int), ())) (fun i hi => ?_) ?_ (by omega) rfl
    · simp only [flotsamref01_Same_s0, flotsamref01_Same_s0r, Bool.cond_decide, beq_self_eq_true, Bool.and_self, Bool.not_true, cond_false]
      rw [if_pos (by omega), if_pos (by omega), if_pos (by omega), if_pos (by omega), if_pos (by omega), wi64_id (by omega) (by omega)]
      rfl
    · simp only [flotsamref01_Same_s0, flotsamref01_Same_s0r, Bool.cond_decide]
      rw [if_neg (by omega)]
  simp only [flotsamref01_Same, flotsamref01_Same_r, bne_self_eq_false, cond_false, hr, Option.bind_some]
theorem same17_self {g b : Int} {n : Nat} (hn : n ≤ 10) {vs : List Val} (hv : vs.length ≤ 1000) : flotsamref17_Same (markM g b n vs, markM g b n vs, ()) = some (true, ()) := by
  have h13 : ∀ r : Int, flotsamref13_Same ((r, [], ()), (r, [], ()), ()) = some (true, ()) := fun r => by
    rw [same13_eq _ _ (by show (0 : Nat) < _; omega)]; simp
  have hr : flotsamref17_Same_l0 (0, markM g b n vs, markM g b n vs, ()) = some (.out ()) := by
    unfold flotsamref17_Same_l0
    refine iterL_run n (fun i => ((i : Int), markM g b n vs, markM g b n vs, ())) (fun i hi => ?_) ?_ (by omega) rfl
    · have hg : (List.replicate n ((b, [], ()) : Grey)).getD i (0, [], ()) = (b, [], ()) := by
        rw [get_d _ _ _ (by rw [List.length_replicate]; exact hi), List.getElem_replicate]
      simp only [flotsamref17_Same_s0, flotsamref17_Same_s0r, Bool.cond_decide, Int.toNat_natCast, markM, List.length_replicate, hg, h13, Option.bind_some, Bool.not_true, cond_false]
      rw [if_pos (by omega), if_pos (by omega), if_pos (by omega), if_pos (by omega), if_pos (by omega), wi64_id (by omega) (by omega)]
      rfl
    · simp only [flotsamref17_Same_s0, flotsamref17_Same_s0r, Bool.cond_decide, markM, List.length_replicate]
      rw [if_neg (by omega)]
  simp only [flotsamref17_Same, flotsamref17_Same_r, bne_self_eq_false, beq_self_eq_true, Bool.not_true, cond_false, hr, Option.bind_some]
  have e1 : flotsamref13_Same ((markM g b n vs).1, (markM g b n vs).1, ()) = some (true, ()) := h13 g
  have e2 : flotsamref01_Same ((markM g b n vs).2.2.1, (markM g b n vs).2.2.1, ()) = some (true, ()) := same01_self hv
  simp only [e1, e2, Option.bind_some, Bool.not_true, cond_false]
end Go.Proofs.YtdfhopakojmjkaaDoor.Den
