/- The pure law ObjectKeeps. Printed by a program of this session (wip/tools/keeps8.py). -/
import Derived.Test.YtdfhopakojmjkaaDoorDenPu
import Derived.Test.YtdfhopakojmjkaaDoorDenPr
namespace Go.Proofs.YtdfhopakojmjkaaDoor.Den
open Go
set_option linter.unusedVariables false
set_option linter.unusedSimpArgs false
set_option maxRecDepth 100000

theorem awake8k : flotsamlaw08_awake () = some (true, ()) := by kernel_rfl
/-- A row that is filled: what becomes of it is of no matter. -/
theorem fill_rule {h o r : U} {step : h.T → Option (SRes h o r)} {α : Type} (mk : Nat → List α → h.T) (mo : List α → o.T) (n : Nat)
    (hs : ∀ i ws, ws.length = n → i < n → ∃ ws', ws'.length = n ∧ step (mk i ws) = some (.next (mk (i + 1) ws')))
    (he : ∀ ws, ws.length = n → step (mk n ws) = some (.fin (.out (mo ws)))) {fuel : Nat} (hf : n < fuel) {ws : List α} (hw : ws.length = n) :
    ∃ ws', ws'.length = n ∧ iterL step fuel (mk 0 ws) = some (.out (mo ws')) := by
  have key : ∃ l, iterL step fuel (mk 0 ws) = some l ∧ ∃ ws', ws'.length = n ∧ l = .out (mo ws') := by
    refine iterL_rule (fun m x => ∃ i ws', i ≤ n ∧ m = n - i ∧ x = mk i ws' ∧ ws'.length = n) ?_ fuel n _ hf ⟨0, ws, by omega, rfl, rfl, hw⟩
    rintro m x ⟨i, ws', i1, rfl, rfl, hl⟩
    by_cases hi : i < n
    · obtain ⟨w2, h2, e⟩ := hs i ws' hl hi
      exact .inl ⟨n - (i + 1), _, by omega, e, i + 1, w2, by omega, rfl, rfl, h2⟩
    · obtain rfl : i = n := by omega
      exact .inr ⟨_, he ws' hl, ws', hl, rfl⟩
  obtain ⟨l, e, ws', h1, rfl⟩ := key
  exact ⟨ws', h1, e⟩
theorem same7_refl {a : Heap} (h1 : a.1.length ≤ 512) (h2 : a.2.1.length ≤ 16) : flotsamref07_Same (a, a, ()) = some (true, ()) := by
  rw [same7_eq _ _ (by omega) (by omega)]; simp

theorem oo_l0 (v1 : Int) (v2 : Int) (v11 : Int) (v13 : Bool) (c0 : Heap) (c16 : Val) (c336 : Bool × Unit) (c496 : Bool × Unit) (c640 : Bool × Unit) (r272 : List Span) (r432 : List Int) (r433 : List Span) (r576 : List Int) (r577 : List Span) {r208 : List Int} {n : Nat} (hn : n < 9223372036854775807) (hr : r208.length = n) : ∃ ws : List Int, ws.length = n ∧ Eq (flotsamlaw08_ObjectKeeps_oo_l0 (v1, v2, v11, v13, 0, c0, c16, c336, c496, c640, r208, r272, r432, r433, r576, r577, ())) (some (.out (v1, v2, v11, v13, c0, c16, c336, c496, c640, ws, r272, r432, r433, r576, r577, ()))) := by
  unfold flotsamlaw08_ObjectKeeps_oo_l0
  refine fill_rule (h := (.cons cI (.cons cI (.cons cI (.cons .bool (.cons cI (.cons cHeap (.cons cVal (.cons (.cons .bool .nil) (.cons (.cons .bool .nil) (.cons (.cons .bool .nil) (.cons (.sl (.int .u64)) (.cons (.sl cSpan) (.cons (.sl (.int .u64)) (.cons (.sl cSpan) (.cons (.sl (.int .u64)) (.cons (.sl cSpan) .nil))))))))))))))))) (o := (.cons cI (.cons cI (.cons cI (.cons .bool (.cons cHeap (.cons cVal (.cons (.cons .bool .nil) (.cons (.cons .bool .nil) (.cons (.cons .bool .nil) (.cons (.sl (.int .u64)) (.cons (.sl cSpan) (.cons (.sl (.int .u64)) (.cons (.sl cSpan) (.cons (.sl (.int .u64)) (.cons (.sl cSpan) .nil)))))))))))))))) (r := .nil) (α := Int) (fuel := 9223372036854775808) (fun i ws => (v1, v2, v11, v13, (i : Int), c0, c16, c336, c496, c640, ws, r272, r432, r433, r576, r577, ())) (fun ws => (v1, v2, v11, v13, c0, c16, c336, c496, c640, ws, r272, r432, r433, r576, r577, ())) n (fun i ws hl hi => ⟨ws.set i 3, by rw [List.length_set]; exact hl, ?_⟩) (fun ws hl => ?_) (by omega) hr
  · simp only [flotsamlaw08_ObjectKeeps_oo_s0, flotsamlaw08_ObjectKeeps_oo_s0r, Bool.cond_decide]
    rw [if_pos (by omega), if_pos (by omega), if_pos (by omega), wi64_id (n := (i : Int) + 1) (by omega) (by omega)]
    rfl
  · simp only [flotsamlaw08_ObjectKeeps_oo_s0, flotsamlaw08_ObjectKeeps_oo_s0r, Bool.cond_decide]
    rw [if_neg (by omega)]

theorem oo_l1 (v1 : Int) (v2 : Int) (v11 : Int) (v13 : Bool) (c0 : Heap) (c16 : Val) (c336 : Bool × Unit) (c496 : Bool × Unit) (c640 : Bool × Unit) (r208 : List Int) (r432 : List Int) (r433 : List Span) (r576 : List Int) (r577 : List Span) {r272 : List Span} {n : Nat} (hn : n < 9223372036854775807) (hr : r272.length = n) : ∃ ws : List Span, ws.length = n ∧ Eq (flotsamlaw08_ObjectKeeps_oo_l1 (v1, v2, v11, v13, 0, c0, c16, c336, c496, c640, r208, r272, r432, r433, r576, r577, ())) (some (.out (v1, v2, v11, v13, c0, c16, c496, c640, r432, r433, r576, r577, ()))) := by
  unfold flotsamlaw08_ObjectKeeps_oo_l1
  refine fill_rule (h := (.cons cI (.cons cI (.cons cI (.cons .bool (.cons cI (.cons cHeap (.cons cVal (.cons (.cons .bool .nil) (.cons (.cons .bool .nil) (.cons (.cons .bool .nil) (.cons (.sl (.int .u64)) (.cons (.sl cSpan) (.cons (.sl (.int .u64)) (.cons (.sl cSpan) (.cons (.sl (.int .u64)) (.cons (.sl cSpan) .nil))))))))))))))))) (o := (.cons cI (.cons cI (.cons cI (.cons .bool (.cons cHeap (.cons cVal (.cons (.cons .bool .nil) (.cons (.cons .bool .nil) (.cons (.sl (.int .u64)) (.cons (.sl cSpan) (.cons (.sl (.int .u64)) (.cons (.sl cSpan) .nil))))))))))))) (r := .nil) (α := Span) (fuel := 9223372036854775808) (fun i ws => (v1, v2, v11, v13, (i : Int), c0, c16, c336, c496, c640, r208, ws, r432, r433, r576, r577, ())) (fun ws => (v1, v2, v11, v13, c0, c16, c496, c640, r432, r433, r576, r577, ())) n (fun i ws hl hi => ⟨ws.set i (0, 0, 0, ()), by rw [List.length_set]; exact hl, ?_⟩) (fun ws hl => ?_) (by omega) hr
  · simp only [flotsamlaw08_ObjectKeeps_oo_s1, flotsamlaw08_ObjectKeeps_oo_s1r, Bool.cond_decide]
    rw [if_pos (by omega), if_pos (by omega), if_pos (by omega), wi64_id (n := (i : Int) + 1) (by omega) (by omega)]
    rfl
  · simp only [flotsamlaw08_ObjectKeeps_oo_s1, flotsamlaw08_ObjectKeeps_oo_s1r, Bool.cond_decide]
    rw [if_neg (by omega)]

theorem on_l0 (v1 : Int) (v2 : Int) (v11 : Int) (v13 : Bool) (c0 : Heap) (c16 : Val) (c336 : Bool × Unit) (c496 : Bool × Unit) (c640 : Unit) (r272 : List Span) (r432 : List Int) (r433 : List Span) {r208 : List Int} {n : Nat} (hn : n < 9223372036854775807) (hr : r208.length = n) : ∃ ws : List Int, ws.length = n ∧ Eq (flotsamlaw08_ObjectKeeps_on_l0 (v1, v2, v11, v13, 0, c0, c16, c336, c496, c640, r208, r272, r432, r433, ())) (some (.out (v1, v2, v11, v13, c0, c16, c336, c496, c640, ws, r272, r432, r433, ()))) := by
  unfold flotsamlaw08_ObjectKeeps_on_l0
  refine fill_rule (h := (.cons cI (.cons cI (.cons cI (.cons .bool (.cons cI (.cons cHeap (.cons cVal (.cons (.cons .bool .nil) (.cons (.cons .bool .nil) (.cons .nil (.cons (.sl (.int .u64)) (.cons (.sl cSpan) (.cons (.sl (.int .u64)) (.cons (.sl cSpan) .nil))))))))))))))) (o := (.cons cI (.cons cI (.cons cI (.cons .bool (.cons cHeap (.cons cVal (.cons (.cons .bool .nil) (.cons (.cons .bool .nil) (.cons .nil (.cons (.sl (.int .u64)) (.cons (.sl cSpan) (.cons (.sl (.int .u64)) (.cons (.sl cSpan) .nil)))))))))))))) (r := .nil) (α := Int) (fuel := 9223372036854775808) (fun i ws => (v1, v2, v11, v13, (i : Int), c0, c16, c336, c496, c640, ws, r272, r432, r433, ())) (fun ws => (v1, v2, v11, v13, c0, c16, c336, c496, c640, ws, r272, r432, r433, ())) n (fun i ws hl hi => ⟨ws.set i 3, by rw [List.length_set]; exact hl, ?_⟩) (fun ws hl => ?_) (by omega) hr
  · simp only [flotsamlaw08_ObjectKeeps_on_s0, flotsamlaw08_ObjectKeeps_on_s0r, Bool.cond_decide]
    rw [if_pos (by omega), if_pos (by omega), if_pos (by omega), wi64_id (n := (i : Int) + 1) (by omega) (by omega)]
    rfl
  · simp only [flotsamlaw08_ObjectKeeps_on_s0, flotsamlaw08_ObjectKeeps_on_s0r, Bool.cond_decide]
    rw [if_neg (by omega)]

theorem on_l1 (v1 : Int) (v2 : Int) (v11 : Int) (v13 : Bool) (c0 : Heap) (c16 : Val) (c336 : Bool × Unit) (c496 : Bool × Unit) (c640 : Unit) (r208 : List Int) (r432 : List Int) (r433 : List Span) {r272 : List Span} {n : Nat} (hn : n < 9223372036854775807) (hr : r272.length = n) : ∃ ws : List Span, ws.length = n ∧ Eq (flotsamlaw08_ObjectKeeps_on_l1 (v1, v2, v11, v13, 0, c0, c16, c336, c496, c640, r208, r272, r432, r433, ())) (some (.out (v1, v2, v11, v13, c0, c16, c496, c640, r432, r433, ()))) := by
  unfold flotsamlaw08_ObjectKeeps_on_l1
  refine fill_rule (h := (.cons cI (.cons cI (.cons cI (.cons .bool (.cons cI (.cons cHeap (.cons cVal (.cons (.cons .bool .nil) (.cons (.cons .bool .nil) (.cons .nil (.cons (.sl (.int .u64)) (.cons (.sl cSpan) (.cons (.sl (.int .u64)) (.cons (.sl cSpan) .nil))))))))))))))) (o := (.cons cI (.cons cI (.cons cI (.cons .bool (.cons cHeap (.cons cVal (.cons (.cons .bool .nil) (.cons .nil (.cons (.sl (.int .u64)) (.cons (.sl cSpan) .nil))))))))))) (r := .nil) (α := Span) (fuel := 9223372036854775808) (fun i ws => (v1, v2, v11, v13, (i : Int), c0, c16, c336, c496, c640, r208, ws, r432, r433, ())) (fun ws => (v1, v2, v11, v13, c0, c16, c496, c640, r432, r433, ())) n (fun i ws hl hi => ⟨ws.set i (0, 0, 0, ()), by rw [List.length_set]; exact hl, ?_⟩) (fun ws hl => ?_) (by omega) hr
  · simp only [flotsamlaw08_ObjectKeeps_on_s1, flotsamlaw08_ObjectKeeps_on_s1r, Bool.cond_decide]
    rw [if_pos (by omega), if_pos (by omega), if_pos (by omega), wi64_id (n := (i : Int) + 1) (by omega) (by omega)]
    rfl
  · simp only [flotsamlaw08_ObjectKeeps_on_s1, flotsamlaw08_ObjectKeeps_on_s1r, Bool.cond_decide]
    rw [if_neg (by omega)]

theorem no_l0 (v1 : Int) (v2 : Int) (v11 : Int) (v13 : Bool) (c0 : Heap) (c16 : Val) (c336 : Bool × Unit) (c496 : Unit) (c640 : Bool × Unit) (r272 : List Span) (r576 : List Int) (r577 : List Span) {r208 : List Int} {n : Nat} (hn : n < 9223372036854775807) (hr : r208.length = n) : ∃ ws : List Int, ws.length = n ∧ Eq (flotsamlaw08_ObjectKeeps_no_l0 (v1, v2, v11, v13, 0, c0, c16, c336, c496, c640, r208, r272, r576, r577, ())) (some (.out (v1, v2, v11, v13, c0, c16, c336, c496, c640, ws, r272, r576, r577, ()))) := by
  unfold flotsamlaw08_ObjectKeeps_no_l0
  refine fill_rule (h := (.cons cI (.cons cI (.cons cI (.cons .bool (.cons cI (.cons cHeap (.cons cVal (.cons (.cons .bool .nil) (.cons .nil (.cons (.cons .bool .nil) (.cons (.sl (.int .u64)) (.cons (.sl cSpan) (.cons (.sl (.int .u64)) (.cons (.sl cSpan) .nil))))))))))))))) (o := (.cons cI (.cons cI (.cons cI (.cons .bool (.cons cHeap (.cons cVal (.cons (.cons .bool .nil) (.cons .nil (.cons (.cons .bool .nil) (.cons (.sl (.int .u64)) (.cons (.sl cSpan) (.cons (.sl (.int .u64)) (.cons (.sl cSpan) .nil)))))))))))))) (r := .nil) (α := Int) (fuel := 9223372036854775808) (fun i ws => (v1, v2, v11, v13, (i : Int), c0, c16, c336, c496, c640, ws, r272, r576, r577, ())) (fun ws => (v1, v2, v11, v13, c0, c16, c336, c496, c640, ws, r272, r576, r577, ())) n (fun i ws hl hi => ⟨ws.set i 3, by rw [List.length_set]; exact hl, ?_⟩) (fun ws hl => ?_) (by omega) hr
  · simp only [flotsamlaw08_ObjectKeeps_no_s0, flotsamlaw08_ObjectKeeps_no_s0r, Bool.cond_decide]
    rw [if_pos (by omega), if_pos (by omega), if_pos (by omega), wi64_id (n := (i : Int) + 1) (by omega) (by omega)]
    rfl
  · simp only [flotsamlaw08_ObjectKeeps_no_s0, flotsamlaw08_ObjectKeeps_no_s0r, Bool.cond_decide]
    rw [if_neg (by omega)]

theorem no_l1 (v1 : Int) (v2 : Int) (v11 : Int) (v13 : Bool) (c0 : Heap) (c16 : Val) (c336 : Bool × Unit) (c496 : Unit) (c640 : Bool × Unit) (r208 : List Int) (r576 : List Int) (r577 : List Span) {r272 : List Span} {n : Nat} (hn : n < 9223372036854775807) (hr : r272.length = n) : ∃ ws : List Span, ws.length = n ∧ Eq (flotsamlaw08_ObjectKeeps_no_l1 (v1, v2, v11, v13, 0, c0, c16, c336, c496, c640, r208, r272, r576, r577, ())) (some (.out (v1, v2, v11, v13, c0, c16, c496, c640, r576, r577, ()))) := by
  unfold flotsamlaw08_ObjectKeeps_no_l1
  refine fill_rule (h := (.cons cI (.cons cI (.cons cI (.cons .bool (.cons cI (.cons cHeap (.cons cVal (.cons (.cons .bool .nil) (.cons .nil (.cons (.cons .bool .nil) (.cons (.sl (.int .u64)) (.cons (.sl cSpan) (.cons (.sl (.int .u64)) (.cons (.sl cSpan) .nil))))))))))))))) (o := (.cons cI (.cons cI (.cons cI (.cons .bool (.cons cHeap (.cons cVal (.cons .nil (.cons (.cons .bool .nil) (.cons (.sl (.int .u64)) (.cons (.sl cSpan) .nil))))))))))) (r := .nil) (α := Span) (fuel := 9223372036854775808) (fun i ws => (v1, v2, v11, v13, (i : Int), c0, c16, c336, c496, c640, r208, ws, r576, r577, ())) (fun ws => (v1, v2, v11, v13, c0, c16, c496, c640, r576, r577, ())) n (fun i ws hl hi => ⟨ws.set i (0, 0, 0, ()), by rw [List.length_set]; exact hl, ?_⟩) (fun ws hl => ?_) (by omega) hr
  · simp only [flotsamlaw08_ObjectKeeps_no_s1, flotsamlaw08_ObjectKeeps_no_s1r, Bool.cond_decide]
    rw [if_pos (by omega), if_pos (by omega), if_pos (by omega), wi64_id (n := (i : Int) + 1) (by omega) (by omega)]
    rfl
  · simp only [flotsamlaw08_ObjectKeeps_no_s1, flotsamlaw08_ObjectKeeps_no_s1r, Bool.cond_decide]
    rw [if_neg (by omega)]

theorem nn_l0 (v1 : Int) (v2 : Int) (v11 : Int) (v13 : Bool) (c0 : Heap) (c16 : Val) (c336 : Bool × Unit) (c496 : Unit) (c640 : Unit) (r272 : List Span) {r208 : List Int} {n : Nat} (hn : n < 9223372036854775807) (hr : r208.length = n) : ∃ ws : List Int, ws.length = n ∧ Eq (flotsamlaw08_ObjectKeeps_nn_l0 (v1, v2, v11, v13, 0, c0, c16, c336, c496, c640, r208, r272, ())) (some (.out (v1, v2, v11, v13, c0, c16, c336, c496, c640, ws, r272, ()))) := by
  unfold flotsamlaw08_ObjectKeeps_nn_l0
  refine fill_rule (h := (.cons cI (.cons cI (.cons cI (.cons .bool (.cons cI (.cons cHeap (.cons cVal (.cons (.cons .bool .nil) (.cons .nil (.cons .nil (.cons (.sl (.int .u64)) (.cons (.sl cSpan) .nil))))))))))))) (o := (.cons cI (.cons cI (.cons cI (.cons .bool (.cons cHeap (.cons cVal (.cons (.cons .bool .nil) (.cons .nil (.cons .nil (.cons (.sl (.int .u64)) (.cons (.sl cSpan) .nil)))))))))))) (r := .nil) (α := Int) (fuel := 9223372036854775808) (fun i ws => (v1, v2, v11, v13, (i : Int), c0, c16, c336, c496, c640, ws, r272, ())) (fun ws => (v1, v2, v11, v13, c0, c16, c336, c496, c640, ws, r272, ())) n (fun i ws hl hi => ⟨ws.set i 3, by rw [List.length_set]; exact hl, ?_⟩) (fun ws hl => ?_) (by omega) hr
  · simp only [flotsamlaw08_ObjectKeeps_nn_s0, flotsamlaw08_ObjectKeeps_nn_s0r, Bool.cond_decide]
    rw [if_pos (by omega), if_pos (by omega), if_pos (by omega), wi64_id (n := (i : Int) + 1) (by omega) (by omega)]
    rfl
  · simp only [flotsamlaw08_ObjectKeeps_nn_s0, flotsamlaw08_ObjectKeeps_nn_s0r, Bool.cond_decide]
    rw [if_neg (by omega)]

theorem nn_l1 (v1 : Int) (v2 : Int) (v11 : Int) (v13 : Bool) (c0 : Heap) (c16 : Val) (c336 : Bool × Unit) (c496 : Unit) (c640 : Unit) (r208 : List Int) {r272 : List Span} {n : Nat} (hn : n < 9223372036854775807) (hr : r272.length = n) : ∃ ws : List Span, ws.length = n ∧ Eq (flotsamlaw08_ObjectKeeps_nn_l1 (v1, v2, v11, v13, 0, c0, c16, c336, c496, c640, r208, r272, ())) (some (.out (v1, v2, v11, v13, c0, c16, c496, c640, ()))) := by
  unfold flotsamlaw08_ObjectKeeps_nn_l1
  refine fill_rule (h := (.cons cI (.cons cI (.cons cI (.cons .bool (.cons cI (.cons cHeap (.cons cVal (.cons (.cons .bool .nil) (.cons .nil (.cons .nil (.cons (.sl (.int .u64)) (.cons (.sl cSpan) .nil))))))))))))) (o := (.cons cI (.cons cI (.cons cI (.cons .bool (.cons cHeap (.cons cVal (.cons .nil (.cons .nil .nil))))))))) (r := .nil) (α := Span) (fuel := 9223372036854775808) (fun i ws => (v1, v2, v11, v13, (i : Int), c0, c16, c336, c496, c640, r208, ws, ())) (fun ws => (v1, v2, v11, v13, c0, c16, c496, c640, ())) n (fun i ws hl hi => ⟨ws.set i (0, 0, 0, ()), by rw [List.length_set]; exact hl, ?_⟩) (fun ws hl => ?_) (by omega) hr
  · simp only [flotsamlaw08_ObjectKeeps_nn_s1, flotsamlaw08_ObjectKeeps_nn_s1r, Bool.cond_decide]
    rw [if_pos (by omega), if_pos (by omega), if_pos (by omega), wi64_id (n := (i : Int) + 1) (by omega) (by omega)]
    rfl
  · simp only [flotsamlaw08_ObjectKeeps_nn_s1, flotsamlaw08_ObjectKeeps_nn_s1r, Bool.cond_decide]
    rw [if_neg (by omega)]

theorem keeps_oo {h : Heap} (gh : Good cHeap h) (hb : formB h = true) {a i : Int} {v : Val} (la : -9223372036854775808 ≤ a) (ua : a < 9223372036854775808) (hr : v.2.1 ≤ 9223372036854775807) (hq : fe h a i = 0 ∧ mayB v = true) (hp : (og h a).2.1 = true) : flotsamlaw08_ObjectKeeps_oo (h, a, i, v, ()) = some (true, ()) := by
  have f := form_of gh hb
  have hn := f.n16
  have hl := f.len
  have hc : ((h.1, h.2.1, h.2.2.1, ()) : Heap) = h := rfl
  obtain ⟨e8, s8, d8⟩ := set8_eq f (a := a) (i := i) hr
  rw [if_pos hq] at s8
  have p8 := paint8_eq f a
  rw [if_pos hp] at p8
  have s1 := set_o_eq f la ua hr hq.1 hq.2
  have t1 := paint_o_eq f la ua hp
  obtain ⟨w1, k1, q1⟩ := oo_l0 a i 0 true h v (h.2.2.1, ()) (stH h a i v).2.2 (nh h a).2.2 h.2.1 (stH h a i v).1 (stH h a i v).2.1 (nh h a).1 (nh h a).2.1 (r208 := h.1) (n := h.1.length) (by omega) rfl
  obtain ⟨w2, k2, q2⟩ := oo_l1 a i 0 true h v (h.2.2.1, ()) (stH h a i v).2.2 (nh h a).2.2 w1 (stH h a i v).1 (stH h a i v).2.1 (nh h a).1 (nh h a).2.1 (r272 := h.2.1) (n := h.2.1.length) (by omega) rfl
  have z0 := same7_refl (a := h) (by omega) (by omega)
  have z1 := same7_refl (a := stH h a i v) (by show (h.1.set _ _).length ≤ 512; rw [List.length_set]; omega) (by show h.2.1.length ≤ 16; omega)
  have z2 := same7_refl (a := nh h a) (by show (h.1.set _ _).length ≤ 512; rw [List.length_set]; omega) (by show h.2.1.length ≤ 16; omega)
  have c1 : (((stH h a i v).1, (stH h a i v).2.1, (stH h a i v).2.2) : Heap) = stH h a i v := rfl
  have c2 : (((nh h a).1, (nh h a).2.1, (nh h a).2.2) : Heap) = nh h a := rfl
  simp only [flotsamlaw08_ObjectKeeps_oo, flotsamlaw08_ObjectKeeps_oo_r, awake8k, form_eq gh, hb, Option.bind_some, Bool.not_true, cond_false, Bool.cond_decide]
  rw [if_pos (by omega), if_pos (by omega)]
  simp only [hc, s1, t1, z0, Option.bind_some, Bool.not_true, cond_false, q1, q2, s8, p8, ibne, Bool.cond_decide]
  simp only [not_true, if_false, c1, z1, cond_true, Bool.not_true, Bool.not_false, cond_false, c2, z2, Option.bind_some]

theorem keeps_on {h : Heap} (gh : Good cHeap h) (hb : formB h = true) {a i : Int} {v : Val} (la : -9223372036854775808 ≤ a) (ua : a < 9223372036854775808) (hr : v.2.1 ≤ 9223372036854775807) (hq : fe h a i = 0 ∧ mayB v = true) (hp : ¬ (og h a).2.1 = true) : flotsamlaw08_ObjectKeeps_on (h, a, i, v, ()) = some (true, ()) := by
  have f := form_of gh hb
  have hn := f.n16
  have hl := f.len
  have hc : ((h.1, h.2.1, h.2.2.1, ()) : Heap) = h := rfl
  obtain ⟨e8, s8, d8⟩ := set8_eq f (a := a) (i := i) hr
  rw [if_pos hq] at s8
  have p8 := paint8_eq f a
  rw [if_neg hp] at p8
  have s1 := set_o_eq f la ua hr hq.1 hq.2
  have t1 := paint_n_eq f la ua hp
  obtain ⟨w1, k1, q1⟩ := on_l0 a i 0 false h v (h.2.2.1, ()) (stH h a i v).2.2 () h.2.1 (stH h a i v).1 (stH h a i v).2.1 (r208 := h.1) (n := h.1.length) (by omega) rfl
  obtain ⟨w2, k2, q2⟩ := on_l1 a i 0 false h v (h.2.2.1, ()) (stH h a i v).2.2 () w1 (stH h a i v).1 (stH h a i v).2.1 (r272 := h.2.1) (n := h.2.1.length) (by omega) rfl
  have z0 := same7_refl (a := h) (by omega) (by omega)
  have z1 := same7_refl (a := stH h a i v) (by show (h.1.set _ _).length ≤ 512; rw [List.length_set]; omega) (by show h.2.1.length ≤ 16; omega)
  have z2 := same7_refl (a := nh h a) (by show (h.1.set _ _).length ≤ 512; rw [List.length_set]; omega) (by show h.2.1.length ≤ 16; omega)
  have c1 : (((stH h a i v).1, (stH h a i v).2.1, (stH h a i v).2.2) : Heap) = stH h a i v := rfl
  have c2 : (((nh h a).1, (nh h a).2.1, (nh h a).2.2) : Heap) = nh h a := rfl
  simp only [flotsamlaw08_ObjectKeeps_on, flotsamlaw08_ObjectKeeps_on_r, awake8k, form_eq gh, hb, Option.bind_some, Bool.not_true, cond_false, Bool.cond_decide]
  rw [if_pos (by omega), if_pos (by omega)]
  simp only [hc, s1, t1, z0, Option.bind_some, Bool.not_true, cond_false, q1, q2, s8, p8, ibne, Bool.cond_decide]
  simp only [not_true, if_false, c1, z1, cond_true, Bool.not_true, Bool.not_false, cond_false, c2, z2, Option.bind_some]

theorem keeps_no {h : Heap} (gh : Good cHeap h) (hb : formB h = true) {a i : Int} {v : Val} (la : -9223372036854775808 ≤ a) (ua : a < 9223372036854775808) (hr : v.2.1 ≤ 9223372036854775807) (hq : ¬ (fe h a i = 0 ∧ mayB v = true)) (hp : (og h a).2.1 = true) : flotsamlaw08_ObjectKeeps_no (h, a, i, v, ()) = some (true, ()) := by
  have f := form_of gh hb
  have hn := f.n16
  have hl := f.len
  have hc : ((h.1, h.2.1, h.2.2.1, ()) : Heap) = h := rfl
  obtain ⟨e8, s8, d8⟩ := set8_eq f (a := a) (i := i) hr
  rw [if_neg hq] at s8
  have p8 := paint8_eq f a
  rw [if_pos hp] at p8
  obtain ⟨e, s1, d1⟩ := set_n_eq f (i := i) (v := v) la ua hq
  have t1 := paint_o_eq f la ua hp
  obtain ⟨w1, k1, q1⟩ := no_l0 a i e true h v (h.2.2.1, ()) () (nh h a).2.2 h.2.1 (nh h a).1 (nh h a).2.1 (r208 := h.1) (n := h.1.length) (by omega) rfl
  obtain ⟨w2, k2, q2⟩ := no_l1 a i e true h v (h.2.2.1, ()) () (nh h a).2.2 w1 (nh h a).1 (nh h a).2.1 (r272 := h.2.1) (n := h.2.1.length) (by omega) rfl
  have z0 := same7_refl (a := h) (by omega) (by omega)
  have z1 := same7_refl (a := stH h a i v) (by show (h.1.set _ _).length ≤ 512; rw [List.length_set]; omega) (by show h.2.1.length ≤ 16; omega)
  have z2 := same7_refl (a := nh h a) (by show (h.1.set _ _).length ≤ 512; rw [List.length_set]; omega) (by show h.2.1.length ≤ 16; omega)
  have c1 : (((stH h a i v).1, (stH h a i v).2.1, (stH h a i v).2.2) : Heap) = stH h a i v := rfl
  have c2 : (((nh h a).1, (nh h a).2.1, (nh h a).2.2) : Heap) = nh h a := rfl
  simp only [flotsamlaw08_ObjectKeeps_no, flotsamlaw08_ObjectKeeps_no_r, awake8k, form_eq gh, hb, Option.bind_some, Bool.not_true, cond_false, Bool.cond_decide]
  rw [if_pos (by omega), if_pos (by omega)]
  simp only [hc, s1, t1, z0, Option.bind_some, Bool.not_true, cond_false, q1, q2, s8, p8, ibne, Bool.cond_decide]
  rw [if_pos d1]
  simp only [Bool.not_true, Bool.not_false, cond_true, cond_false, c2, z2, Option.bind_some]

theorem keeps_nn {h : Heap} (gh : Good cHeap h) (hb : formB h = true) {a i : Int} {v : Val} (la : -9223372036854775808 ≤ a) (ua : a < 9223372036854775808) (hr : v.2.1 ≤ 9223372036854775807) (hq : ¬ (fe h a i = 0 ∧ mayB v = true)) (hp : ¬ (og h a).2.1 = true) : flotsamlaw08_ObjectKeeps_nn (h, a, i, v, ()) = some (true, ()) := by
  have f := form_of gh hb
  have hn := f.n16
  have hl := f.len
  have hc : ((h.1, h.2.1, h.2.2.1, ()) : Heap) = h := rfl
  obtain ⟨e8, s8, d8⟩ := set8_eq f (a := a) (i := i) hr
  rw [if_neg hq] at s8
  have p8 := paint8_eq f a
  rw [if_neg hp] at p8
  obtain ⟨e, s1, d1⟩ := set_n_eq f (i := i) (v := v) la ua hq
  have t1 := paint_n_eq f la ua hp
  obtain ⟨w1, k1, q1⟩ := nn_l0 a i e false h v (h.2.2.1, ()) () () h.2.1 (r208 := h.1) (n := h.1.length) (by omega) rfl
  obtain ⟨w2, k2, q2⟩ := nn_l1 a i e false h v (h.2.2.1, ()) () () w1 (r272 := h.2.1) (n := h.2.1.length) (by omega) rfl
  have z0 := same7_refl (a := h) (by omega) (by omega)
  have z1 := same7_refl (a := stH h a i v) (by show (h.1.set _ _).length ≤ 512; rw [List.length_set]; omega) (by show h.2.1.length ≤ 16; omega)
  have z2 := same7_refl (a := nh h a) (by show (h.1.set _ _).length ≤ 512; rw [List.length_set]; omega) (by show h.2.1.length ≤ 16; omega)
  have c1 : (((stH h a i v).1, (stH h a i v).2.1, (stH h a i v).2.2) : Heap) = stH h a i v := rfl
  have c2 : (((nh h a).1, (nh h a).2.1, (nh h a).2.2) : Heap) = nh h a := rfl
  simp only [flotsamlaw08_ObjectKeeps_nn, flotsamlaw08_ObjectKeeps_nn_r, awake8k, form_eq gh, hb, Option.bind_some, Bool.not_true, cond_false, Bool.cond_decide]
  rw [if_pos (by omega), if_pos (by omega)]
  simp only [hc, s1, t1, z0, Option.bind_some, Bool.not_true, cond_false, q1, q2, s8, p8, ibne, Bool.cond_decide]
  rw [if_pos d1]
  simp only [Bool.not_true, Bool.not_false, cond_true, cond_false, c2, z2, Option.bind_some]

theorem objectKeeps_pure : ∀ x, Good (.cons cHeap (.cons cI (.cons cI (.cons cVal .nil)))) x → flotsamlaw08_ObjectKeeps x = some (true, ()) := by
  rintro ⟨(h : Heap), (a : Int), (i : Int), (v : Val), ⟨⟩⟩ ⟨gh, ga, gi, gv, -⟩
  have gh : Good cHeap h := gh
  have ga : (-9223372036854775808 : Int) ≤ a ∧ a ≤ 9223372036854775807 := ga
  have gv : (-9223372036854775808 : Int) ≤ v.2.1 ∧ v.2.1 ≤ 9223372036854775807 := gv.2.1
  unfold flotsamlaw08_ObjectKeeps
  cases hf : formB h with
  | false =>
    refine anyTrue_of (F := flotsamlaw08_ObjectKeeps_nn) (by simp) ?_
    simp only [flotsamlaw08_ObjectKeeps_nn, flotsamlaw08_ObjectKeeps_nn_r, awake8k, form_eq gh, hf, Option.bind_some, Bool.not_true, Bool.not_false, cond_true, cond_false]
  | true =>
    by_cases hq : fe h a i = 0 ∧ mayB v = true
    · by_cases hp : (og h a).2.1 = true
      · exact anyTrue_of (F := flotsamlaw08_ObjectKeeps_oo) (by simp) (keeps_oo gh hf ga.1 (by omega) gv.2 hq hp)
      · exact anyTrue_of (F := flotsamlaw08_ObjectKeeps_on) (by simp) (keeps_on gh hf ga.1 (by omega) gv.2 hq hp)
    · by_cases hp : (og h a).2.1 = true
      · exact anyTrue_of (F := flotsamlaw08_ObjectKeeps_no) (by simp) (keeps_no gh hf ga.1 (by omega) gv.2 hq hp)
      · exact anyTrue_of (F := flotsamlaw08_ObjectKeeps_nn) (by simp) (keeps_nn gh hf ga.1 (by omega) gv.2 hq hp)
end Go.Proofs.YtdfhopakojmjkaaDoor.Den
