/- The pure law HeapKeeps. Printed by a program of this session (wip/tools/keeps7.py). -/
import Derived.Test.YtdfhopakojmjkaaDoorDfkRi
import Derived.Test.YtdfhopakojmjkaaDoorDfkQHeapForms
namespace Go.Proofs.YtdfhopakojmjkaaDoor.Dfk
open Go
set_option linter.unusedVariables false
set_option linter.unusedSimpArgs false
set_option maxRecDepth 100000

/-- A row that is filled: what becomes of it is of no matter. -/
theorem fill_rule {h o r : U} {step : h.T → Option (SRes h o r)} {α : Type} (mk : Nat → List α → h.T) (mo : List α → o.T) (n : Nat)
    (hs : ∀ i ws, ws.length = n → i < n → ∃ ws', ws'.length = n ∧ step (mk i ws) = some (.next (mk (i + 1) ws')))
    (he : ∀ ws, ws.length = n → step (mk n ws) = some (.fin (.out (mo ws)))) {fuel : Nat} (hf : n < fuel) {ws : List α} (hw : ws.length = n) :
    ∃ ws', ws'.length = n ∧ iterL step fuel (mk 0 ws) = some (.out (mo ws')) := by
  have key : ∃ l, iterL step fuel (mk 0 ws) = some l ∧ ∃ ws', ws'.length = n ∧ l = .out (mo ws') := by
    refine iterL_rule (fun m x => ∃ i ws', i ≤ n ∧ m = n - i ∧ x = mk i ws' ∧ ws'.length = n) ?_ fuel n _ hf ⟨0, ws, by omega, rfl, rfl, hw⟩
    rintro m x ⟨i, ws', i1, rfl, rfl, hl⟩
    by_cases hi : i < n
    · obtain ⟨w2, h2, e⟩ := hs i ws' hl hi
      exact .inl ⟨n - (i + 1), _, by omega, e, i + 1, w2, by omega, rfl, rfl, h2⟩
    · obtain rfl : i = n := by omega
      exact .inr ⟨_, he ws' hl, ws', hl, rfl⟩
  obtain ⟨l, e, ws', h1, rfl⟩ := key
  exact ⟨ws', h1, e⟩

theorem open_o_in {h : Heap} (f : FormP h) {p c : Int} (i : openP h p c) : heap_Open_o (h, p, c, ()) = some (opened h p c, true, ()) := by
  obtain ⟨ip, c0, c3, hs⟩ := i
  have hn := f.n16
  have hl := f.len
  have i0 := ip.1
  have i1 := ip.2
  simp only [heap_Open_o, heap_Open_o_r, page_in ip, span_New_in c0 c3, clone8_eq (show h.1.length ≤ 512 by omega), clone24_eq (show h.2.1.length ≤ 512 by omega), Option.bind_some, Bool.cond_decide, ibeq, condn, hs, cond_true]
  rw [if_pos trivial, if_pos i0, if_pos i1]; rfl
theorem open_n_out {h : Heap} {p c : Int} (i : ¬ openP h p c) : heap_Open_n (h, p, c, ()) = some ((), false, ()) := by
  by_cases ip : inP h p
  · by_cases hc : 0 ≤ c ∧ c ≤ 3
    · have hs : ¬ (spanAt h p).1 = 0 := fun e => i ⟨ip, hc.1, hc.2, e⟩
      simp only [heap_Open_n, heap_Open_n_r, page_in ip, span_New_in hc.1 hc.2, Option.bind_some, Bool.cond_decide, ibeq, condn, cond_true]
      rw [if_neg hs]
    · simp only [heap_Open_n, heap_Open_n_r, page_in ip, span_New_out hc, Option.bind_some, Bool.not_true, cond_false]
  · simp only [heap_Open_n, heap_Open_n_r, page_out ip, Option.bind_some, Bool.not_false, cond_true]
theorem close_n_in {h : Heap} (f : FormP h) {p : Int} (i : closeP h p) : heap_Close_n (h, p, ()) = some ((), true, ()) := by
  obtain ⟨ip, hu, hs⟩ := i
  have hn := f.n16
  have hl := f.len
  have i0 := ip.1
  have i1 := ip.2
  have hR := right_use (f.right _ ip.mem) hu
  simp only [heap_Close_n, heap_Close_n_r, heap_Close_1, heap_Close_1_r, page_in ip, span_Empty, span_Empty_r, span_inUse_eq, whole_eq, clone8_eq (show h.1.length ≤ 512 by omega), clone24_eq (show h.2.1.length ≤ 512 by omega), Option.bind_some, Bool.cond_decide, ibeq, condn, cond_true]
  rw [if_pos hR.1]
  simp only [Option.bind_some, Bool.cond_decide]
  rw [if_pos hs, if_pos i0, if_pos i1]
theorem close_n_out {h : Heap} {p : Int} (i : ¬ closeP h p) : heap_Close_n (h, p, ()) = some ((), false, ()) := by
  by_cases ip : inP h p
  · simp only [heap_Close_n, heap_Close_n_r, heap_Close_1, heap_Close_1_r, page_in ip, span_Empty, span_Empty_r, span_inUse_eq, whole_eq, Option.bind_some, Bool.cond_decide, ibeq, condn, cond_true]
    by_cases hu : (spanAt h p).1 = 1 ∨ (spanAt h p).1 = 2
    · rw [if_pos hu]
      simp only [Option.bind_some, Bool.cond_decide]
      rw [if_neg (fun e => i ⟨ip, by omega, e⟩)]
    · rw [if_neg hu]
      simp only [Option.bind_some, cond_false]
  · simp only [heap_Close_n, heap_Close_n_r, page_out ip, Option.bind_some, Bool.not_false, cond_true]
theorem free_o_in {h : Heap} (f : FormP h) (hf : FreeP h) {a : Int} (i : freeP h a) : heap_Free_o (h, a, ()) = some (freed h a, true, ()) := by
  obtain ⟨hb, hg⟩ := i
  obtain ⟨ip, es⟩ := fnd_page hb
  have hr := fnd_room f hb
  have h1 := fndB_rng hb
  have hn := f.n16
  have hl := f.len
  have i0 := ip.1
  have i1 := ip.2
  have hR := f.right _ ip.mem
  have h0 := hf _ ip.mem
  rw [es] at hR h0
  have hg' := (give_in h0 (rightB_free hR h0) hg).1
  have hw := cw_le (spanOf h a).2.1
  simp only [heap_Free_o, heap_Free_o_r, find_eq f (show -9223372036854775808 ≤ a by omega) (by omega), fnd_in hb, page_in ip, es, hg', clone8_eq (show h.1.length ≤ 512 by omega), clone24_eq (show h.2.1.length ≤ 512 by omega), Option.bind_some, Bool.cond_decide, condn, cond_true, Bool.not_true, cond_false]
  simp only [show ((0 : Int), (0 : Int), (0 : Int), ()) = sz from rfl]
  rw [if_pos i0, if_pos i1, if_pos i0, if_pos i1]
  change (class_Words ((spanAt h (a / 32)).2.1, ())).bind _ = _
  rw [es, class_Words_eq, Option.bind_some]
  dsimp only
  rw [wi64_id (by omega) (by omega), if_pos (by omega), if_pos (by omega), if_pos (by omega), freed, zer, show (a + cw (spanOf h a).2.1).toNat - a.toNat = (cw (spanOf h a).2.1).toNat by omega]
theorem free_n_out {h : Heap} (f : FormP h) (hf : FreeP h) {a : Int} (l : -9223372036854775808 ≤ a) (u : a < 9223372036854775808) (i : ¬ freeP h a) : heap_Free_n (h, a, ()) = some ((), false, ()) := by
  by_cases hb : fndB h a = true
  · obtain ⟨ip, es⟩ := fnd_page hb
    have hR := f.right _ ip.mem
    have h0 := hf _ ip.mem
    rw [es] at hR h0
    have hg' := (give_out h0 (rightB_free hR h0) (fun g => i ⟨hb, g⟩)).1
    simp only [heap_Free_n, heap_Free_n_r, find_eq f l u, fnd_in hb, page_in ip, es, hg', Option.bind_some, condn, cond_true, Bool.not_true, cond_false, Bool.not_false]
  · simp only [heap_Free_n, heap_Free_n_r, find_eq f l u, fnd_out hb, Option.bind_some, Bool.not_false, cond_true]
theorem lay_o_in {h : Heap} (f : FormP h) (hf : FreeP h) {p n : Int} (q : layP h p n) : ∃ i : Nat, lowP (spanAt h p).2.2.1 i ∧ (i : Int) < cb (spanAt h p).2.1 ∧
    heap_Lay_o (h, p, n, ()) = some (laid h p i n, layA h p i, true, ()) := by
  obtain ⟨ip, hs, hz, n0, n1⟩ := q
  have hR := f.right _ ip.mem
  have h0 := hf _ ip.mem
  obtain ⟨i, hi, hb, hlow, t1, t2⟩ := take_in h0 (rightB_free hR h0) hs hz
  have hib := lay_low f hf ip (by omega) hb
  obtain ⟨⟨c0, c3⟩, m0, m1⟩ := lay_room f hf ip (by omega) hib
  have hn := f.n16
  have hl := f.len
  have i0 := ip.1
  have i1 := ip.2
  have hw := cw_le (spanAt h p).2.1
  have hset : p.toNat < h.2.1.length := by omega
  refine ⟨i, ⟨hb, hlow⟩, hib, ?_⟩
  · simp only [heap_Lay_o, heap_Lay_o_r, page_in ip, t1, class_Fields_eq, clone8_eq (show h.1.length ≤ 512 by omega), clone24_eq (show h.2.1.length ≤ 512 by omega), Option.bind_some, Bool.cond_decide, condn, cond_true, Bool.not_true, cond_false]
    simp only [show ((0 : Int), (0 : Int), (0 : Int), ()) = sz from rfl, List.length_set, getD_set_self hset]
    rw [if_pos (by omega), if_pos (show 0 ≤ (spanAt h p).2.1 ∧ (spanAt h p).2.1 < 4 by omega), if_pos (by omega), if_pos i0, if_pos i1, if_pos i0, if_pos i1]
    simp only [arena_Address, arena_Address_r, class_Blocks_eq, class_Words_eq, (put_used c0 c3 n0 n1 _).1, Option.bind_some, Bool.cond_decide]
    rw [if_neg (by omega), if_neg (by omega), if_neg (by omega), if_neg (by omega), Option.bind_some]
    dsimp only
    rw [wi64_id (n := p * 32) (by omega) (by omega), wi64_id (n := (i : Int) * cw (spanAt h p).2.1) (by omega) (by omega), wi64_id (n := p * 32 + (i : Int) * cw (spanAt h p).2.1) (by omega) (by omega), wi64_id (by omega) (by omega)]
    rw [show p * 32 + (i : Int) * cw (spanAt h p).2.1 = layA h p i by unfold layA; omega]
    have hA : 0 ≤ layA h p i ∧ layA h p i + cw (spanAt h p).2.1 ≤ h.1.length := by unfold layA; omega
    rw [show (layA h p i + cw (spanAt h p).2.1).toNat - (layA h p i).toNat = (cw (spanAt h p).2.1).toNat by omega]
    change (if 0 ≤ layA h p i then if layA h p i ≤ layA h p i + cw (spanAt h p).2.1 then if layA h p i + cw (spanAt h p).2.1 ≤ (h.1.length : Int) then if 0 ≤ layA h p i then if layA h p i < ((zer h.1 (layA h p i).toNat (cw (spanAt h p).2.1).toNat).length : Int) then some (((zer h.1 (layA h p i).toNat (cw (spanAt h p).2.1).toNat).set (layA h p i).toNat _, _, _), _, _, _) else none else none else none else none else none) = _
    have h2 := cw_pos c0 c3
    rw [if_pos (by omega), if_pos (by omega), if_pos (by omega), if_pos (by omega), zer_len (by omega), if_pos (by omega)]
    rfl
theorem lay_n_out {h : Heap} (f : FormP h) (hf : FreeP h) {p n : Int} (q : ¬ layP h p n) : heap_Lay_n (h, p, n, ()) = some ((), 0, false, ()) := by
  by_cases ip : inP h p
  · have hR := f.right _ ip.mem
    have h0 := hf _ ip.mem
    have i0 := ip.1
    have i1 := ip.2
    have hc : n < cw (spanAt h p).2.1 → ¬ n < 0 → ¬ ((spanAt h p).1 = 1 ∧ (spanAt h p).2.2.1 ≠ 0) := fun h1 h2 h3 => q ⟨ip, h3.1, h3.2, by omega, h1⟩
    · by_cases ht : (spanAt h p).1 = 1 ∧ (spanAt h p).2.2.1 ≠ 0
      · obtain ⟨i, hi, hb, hlow, t1, t2⟩ := take_in h0 (rightB_free hR h0) ht.1 ht.2
        obtain ⟨hu, c0, c3, hlt⟩ := right_use hR (show (spanAt h p).1 ≠ 0 by omega)
        simp only [heap_Lay_n, heap_Lay_n_r, page_in ip, t1, class_Fields_eq, Option.bind_some, Bool.cond_decide, condn, cond_true]
        by_cases n0 : n ≥ 0
        · rw [if_pos n0, if_pos (show 0 ≤ (spanAt h p).2.1 ∧ (spanAt h p).2.1 < 4 by omega), if_neg (fun h4 => hc (by omega) (by omega) ht)]
        · rw [if_neg n0]
      · have t1 := (take_out h0 (rightB_free hR h0) ht).1
        simp only [heap_Lay_n, heap_Lay_n_r, page_in ip, t1, Option.bind_some, condn, cond_true, cond_false]
  · simp only [heap_Lay_n, heap_Lay_n_r, page_out ip, Option.bind_some, Bool.not_false, cond_true]
theorem keeps_ono_l0 (v1 : Int) (v2 : Int) (v9 : Bool) (v12 : Bool) (v14 : Bool) (c0 : Heap) (c320 : Bool × Unit) (c464 : Bool × Unit) (c640 : Unit) (c800 : Bool × Unit) (r192 : List Int) (r256 : List Span) (r400 : List Int) (r401 : List Span) (r736 : List Int) (r737 : List Span) (hl : r192.length ≤ 512) : ∃ ws' : List Int, ws'.length = r192.length ∧ flotsamlaw07_HeapKeeps_ono_l0 (v1, v2, v9, v12, v14, 0, c0, c320, c464, c640, c800, r192, r256, r400, r401, r736, r737, ()) = some (.out (v1, v2, v9, v12, v14, c0, c320, c464, c640, c800, ws', r256, r400, r401, r736, r737, ())) := by
  unfold flotsamlaw07_HeapKeeps_ono_l0
  refine fill_rule (h := (.cons cI (.cons cI (.cons .bool (.cons .bool (.cons .bool (.cons cI (.cons cHeap (.cons (.cons .bool .nil) (.cons (.cons .bool .nil) (.cons .nil (.cons (.cons .bool .nil) (.cons (.sl (.int .u64)) (.cons (.sl cSpan) (.cons (.sl (.int .u64)) (.cons (.sl cSpan) (.cons (.sl (.int .u64)) (.cons (.sl cSpan) .nil)))))))))))))))))) (o := (.cons cI (.cons cI (.cons .bool (.cons .bool (.cons .bool (.cons cHeap (.cons (.cons .bool .nil) (.cons (.cons .bool .nil) (.cons .nil (.cons (.cons .bool .nil) (.cons (.sl (.int .u64)) (.cons (.sl cSpan) (.cons (.sl (.int .u64)) (.cons (.sl cSpan) (.cons (.sl (.int .u64)) (.cons (.sl cSpan) .nil))))))))))))))))) (r := .nil) (α := Int) (fuel := 9223372036854775808) (fun i ws => (v1, v2, v9, v12, v14, (i : Int), c0, c320, c464, c640, c800, ws, r256, r400, r401, r736, r737, ())) (fun ws' => (v1, v2, v9, v12, v14, c0, c320, c464, c640, c800, ws', r256, r400, r401, r736, r737, ())) r192.length (fun i ws hw hi => ?_) (fun ws hw => ?_) (by omega) rfl
  · refine ⟨ws.set i 77, by rw [List.length_set]; exact hw, ?_⟩
    simp only [flotsamlaw07_HeapKeeps_ono_s0, flotsamlaw07_HeapKeeps_ono_s0r, Bool.cond_decide]
    rw [if_pos (by omega), if_pos (by omega), if_pos (by omega), wi64_id (by omega) (by omega)]
    rfl
  · simp only [flotsamlaw07_HeapKeeps_ono_s0, flotsamlaw07_HeapKeeps_ono_s0r, Bool.cond_decide]
    rw [if_neg (by omega)]
theorem keeps_ono_l1 (v1 : Int) (v2 : Int) (v9 : Bool) (v12 : Bool) (v14 : Bool) (c0 : Heap) (c320 : Bool × Unit) (c464 : Bool × Unit) (c640 : Unit) (c800 : Bool × Unit) (r192 : List Int) (r256 : List Span) (r400 : List Int) (r401 : List Span) (r736 : List Int) (r737 : List Span) (hl : r256.length ≤ 512) : ∃ ws' : List Span, ws'.length = r256.length ∧ flotsamlaw07_HeapKeeps_ono_l1 (v1, v2, v9, v12, v14, 0, c0, c320, c464, c640, c800, r192, r256, r400, r401, r736, r737, ()) = some (.out (v1, v2, v9, v12, v14, c0, c464, c640, c800, r400, r401, r736, r737, ())) := by
  unfold flotsamlaw07_HeapKeeps_ono_l1
  refine fill_rule (h := (.cons cI (.cons cI (.cons .bool (.cons .bool (.cons .bool (.cons cI (.cons cHeap (.cons (.cons .bool .nil) (.cons (.cons .bool .nil) (.cons .nil (.cons (.cons .bool .nil) (.cons (.sl (.int .u64)) (.cons (.sl cSpan) (.cons (.sl (.int .u64)) (.cons (.sl cSpan) (.cons (.sl (.int .u64)) (.cons (.sl cSpan) .nil)))))))))))))))))) (o := (.cons cI (.cons cI (.cons .bool (.cons .bool (.cons .bool (.cons cHeap (.cons (.cons .bool .nil) (.cons .nil (.cons (.cons .bool .nil) (.cons (.sl (.int .u64)) (.cons (.sl cSpan) (.cons (.sl (.int .u64)) (.cons (.sl cSpan) .nil)))))))))))))) (r := .nil) (α := Span) (fuel := 9223372036854775808) (fun i ws => (v1, v2, v9, v12, v14, (i : Int), c0, c320, c464, c640, c800, r192, ws, r400, r401, r736, r737, ())) (fun ws' => (v1, v2, v9, v12, v14, c0, c464, c640, c800, r400, r401, r736, r737, ())) r256.length (fun i ws hw hi => ?_) (fun ws hw => ?_) (by omega) rfl
  · refine ⟨ws.set i (9, 0, 0, ()), by rw [List.length_set]; exact hw, ?_⟩
    simp only [flotsamlaw07_HeapKeeps_ono_s1, flotsamlaw07_HeapKeeps_ono_s1r, Bool.cond_decide]
    rw [if_pos (by omega), if_pos (by omega), if_pos (by omega), wi64_id (by omega) (by omega)]
    rfl
  · simp only [flotsamlaw07_HeapKeeps_ono_s1, flotsamlaw07_HeapKeeps_ono_s1r, Bool.cond_decide]
    rw [if_neg (by omega)]
theorem keeps_ono {h : Heap} (gh : Good cHeap h) (hb : formB h = true) (q : HP h) {a b : Int} (la : -9223372036854775808 ≤ a) (ua : a < 9223372036854775808) (o1 : openP h a b) (o2 : ¬ layP h a b) (o3 : freeP h a) : flotsamlaw07_HeapKeeps_ono (h, a, b, ()) = some (true, ()) := by
  have hn := q.f.n16
  have hl := q.f.len
  have hc : ∃ x, heap_Close_n (h, a, ()) = some ((), x, ()) := by
    by_cases c : closeP h a
    · exact ⟨_, close_n_in q.f c⟩
    · exact ⟨_, close_n_out c⟩
  obtain ⟨x, hc⟩ := hc
  have eh : (h.1, h.2.1, h.2.2.1, ()) = h := rfl
  simp only [flotsamlaw07_HeapKeeps_ono, flotsamlaw07_HeapKeeps_ono_r, awake07, form_eq gh, hb, eh, same7_self q.f, hc, open_o_in q.f o1, open7_in q.f o1, same7_self (opened_hp q o1).f, lay_n_out q.f q.fr o2, (lay_out q.f q.fr o2).2, free_o_in q.f q.fr o3, free7_in q.f q.fr o3, same7_self (freed_hp q o3).f, Option.bind_some, Bool.not_true, cond_false, Bool.cond_decide]
  rw [if_pos (by omega), if_pos (by omega)]
  obtain ⟨w1, h1, e3⟩ := keeps_ono_l0 a b true false true h (h.2.2.1, ()) ((opened h a b).2.2) () ((freed h a).2.2) h.1 h.2.1 ((opened h a b).1) ((opened h a b).2.1) ((freed h a).1) ((freed h a).2.1) (by omega)
  rw [e3, Option.bind_some]
  dsimp only
  obtain ⟨w2, h2, e4⟩ := keeps_ono_l1 a b true false true h (h.2.2.1, ()) ((opened h a b).2.2) () ((freed h a).2.2) w1 h.2.1 ((opened h a b).1) ((opened h a b).2.1) ((freed h a).1) ((freed h a).2.1) (by show h.2.1.length ≤ 512; omega)
  rw [e4, Option.bind_some]
  dsimp only
  simp only [open_o_in q.f o1, open7_in q.f o1, same7_self (opened_hp q o1).f, lay_n_out q.f q.fr o2, (lay_out q.f q.fr o2).2, free_o_in q.f q.fr o3, free7_in q.f q.fr o3, same7_self (freed_hp q o3).f, Option.bind_some, Bool.not_true, Bool.not_false, cond_true, cond_false]
theorem keeps_onn_l0 (v1 : Int) (v2 : Int) (v9 : Bool) (v12 : Bool) (v14 : Bool) (c0 : Heap) (c320 : Bool × Unit) (c464 : Bool × Unit) (c640 : Unit) (c800 : Unit) (r192 : List Int) (r256 : List Span) (r400 : List Int) (r401 : List Span) (hl : r192.length ≤ 512) : ∃ ws' : List Int, ws'.length = r192.length ∧ flotsamlaw07_HeapKeeps_onn_l0 (v1, v2, v9, v12, v14, 0, c0, c320, c464, c640, c800, r192, r256, r400, r401, ()) = some (.out (v1, v2, v9, v12, v14, c0, c320, c464, c640, c800, ws', r256, r400, r401, ())) := by
  unfold flotsamlaw07_HeapKeeps_onn_l0
  refine fill_rule (h := (.cons cI (.cons cI (.cons .bool (.cons .bool (.cons .bool (.cons cI (.cons cHeap (.cons (.cons .bool .nil) (.cons (.cons .bool .nil) (.cons .nil (.cons .nil (.cons (.sl (.int .u64)) (.cons (.sl cSpan) (.cons (.sl (.int .u64)) (.cons (.sl cSpan) .nil)))))))))))))))) (o := (.cons cI (.cons cI (.cons .bool (.cons .bool (.cons .bool (.cons cHeap (.cons (.cons .bool .nil) (.cons (.cons .bool .nil) (.cons .nil (.cons .nil (.cons (.sl (.int .u64)) (.cons (.sl cSpan) (.cons (.sl (.int .u64)) (.cons (.sl cSpan) .nil))))))))))))))) (r := .nil) (α := Int) (fuel := 9223372036854775808) (fun i ws => (v1, v2, v9, v12, v14, (i : Int), c0, c320, c464, c640, c800, ws, r256, r400, r401, ())) (fun ws' => (v1, v2, v9, v12, v14, c0, c320, c464, c640, c800, ws', r256, r400, r401, ())) r192.length (fun i ws hw hi => ?_) (fun ws hw => ?_) (by omega) rfl
  · refine ⟨ws.set i 77, by rw [List.length_set]; exact hw, ?_⟩
    simp only [flotsamlaw07_HeapKeeps_onn_s0, flotsamlaw07_HeapKeeps_onn_s0r, Bool.cond_decide]
    rw [if_pos (by omega), if_pos (by omega), if_pos (by omega), wi64_id (by omega) (by omega)]
    rfl
  · simp only [flotsamlaw07_HeapKeeps_onn_s0, flotsamlaw07_HeapKeeps_onn_s0r, Bool.cond_decide]
    rw [if_neg (by omega)]
theorem keeps_onn_l1 (v1 : Int) (v2 : Int) (v9 : Bool) (v12 : Bool) (v14 : Bool) (c0 : Heap) (c320 : Bool × Unit) (c464 : Bool × Unit) (c640 : Unit) (c800 : Unit) (r192 : List Int) (r256 : List Span) (r400 : List Int) (r401 : List Span) (hl : r256.length ≤ 512) : ∃ ws' : List Span, ws'.length = r256.length ∧ flotsamlaw07_HeapKeeps_onn_l1 (v1, v2, v9, v12, v14, 0, c0, c320, c464, c640, c800, r192, r256, r400, r401, ()) = some (.out (v1, v2, v9, v12, v14, c0, c464, c640, c800, r400, r401, ())) := by
  unfold flotsamlaw07_HeapKeeps_onn_l1
  refine fill_rule (h := (.cons cI (.cons cI (.cons .bool (.cons .bool (.cons .bool (.cons cI (.cons cHeap (.cons (.cons .bool .nil) (.cons (.cons .bool .nil) (.cons .nil (.cons .nil (.cons (.sl (.int .u64)) (.cons (.sl cSpan) (.cons (.sl (.int .u64)) (.cons (.sl cSpan) .nil)))))))))))))))) (o := (.cons cI (.cons cI (.cons .bool (.cons .bool (.cons .bool (.cons cHeap (.cons (.cons .bool .nil) (.cons .nil (.cons .nil (.cons (.sl (.int .u64)) (.cons (.sl cSpan) .nil)))))))))))) (r := .nil) (α := Span) (fuel := 9223372036854775808) (fun i ws => (v1, v2, v9, v12, v14, (i : Int), c0, c320, c464, c640, c800, r192, ws, r400, r401, ())) (fun ws' => (v1, v2, v9, v12, v14, c0, c464, c640, c800, r400, r401, ())) r256.length (fun i ws hw hi => ?_) (fun ws hw => ?_) (by omega) rfl
  · refine ⟨ws.set i (9, 0, 0, ()), by rw [List.length_set]; exact hw, ?_⟩
    simp only [flotsamlaw07_HeapKeeps_onn_s1, flotsamlaw07_HeapKeeps_onn_s1r, Bool.cond_decide]
    rw [if_pos (by omega), if_pos (by omega), if_pos (by omega), wi64_id (by omega) (by omega)]
    rfl
  · simp only [flotsamlaw07_HeapKeeps_onn_s1, flotsamlaw07_HeapKeeps_onn_s1r, Bool.cond_decide]
    rw [if_neg (by omega)]
theorem keeps_onn {h : Heap} (gh : Good cHeap h) (hb : formB h = true) (q : HP h) {a b : Int} (la : -9223372036854775808 ≤ a) (ua : a < 9223372036854775808) (o1 : openP h a b) (o2 : ¬ layP h a b) (o3 : ¬ freeP h a) : flotsamlaw07_HeapKeeps_onn (h, a, b, ()) = some (true, ()) := by
  have hn := q.f.n16
  have hl := q.f.len
  have hc : ∃ x, heap_Close_n (h, a, ()) = some ((), x, ()) := by
    by_cases c : closeP h a
    · exact ⟨_, close_n_in q.f c⟩
    · exact ⟨_, close_n_out c⟩
  obtain ⟨x, hc⟩ := hc
  have eh : (h.1, h.2.1, h.2.2.1, ()) = h := rfl
  simp only [flotsamlaw07_HeapKeeps_onn, flotsamlaw07_HeapKeeps_onn_r, awake07, form_eq gh, hb, eh, same7_self q.f, hc, open_o_in q.f o1, open7_in q.f o1, same7_self (opened_hp q o1).f, lay_n_out q.f q.fr o2, (lay_out q.f q.fr o2).2, free_n_out q.f q.fr la ua o3, free7_out q.f q.fr o3, Option.bind_some, Bool.not_true, cond_false, Bool.cond_decide]
  rw [if_pos (by omega), if_pos (by omega)]
  obtain ⟨w1, h1, e3⟩ := keeps_onn_l0 a b true false false h (h.2.2.1, ()) ((opened h a b).2.2) () () h.1 h.2.1 ((opened h a b).1) ((opened h a b).2.1) (by omega)
  rw [e3, Option.bind_some]
  dsimp only
  obtain ⟨w2, h2, e4⟩ := keeps_onn_l1 a b true false false h (h.2.2.1, ()) ((opened h a b).2.2) () () w1 h.2.1 ((opened h a b).1) ((opened h a b).2.1) (by show h.2.1.length ≤ 512; omega)
  rw [e4, Option.bind_some]
  dsimp only
  simp only [open_o_in q.f o1, open7_in q.f o1, same7_self (opened_hp q o1).f, lay_n_out q.f q.fr o2, (lay_out q.f q.fr o2).2, free_n_out q.f q.fr la ua o3, free7_out q.f q.fr o3, Option.bind_some, Bool.not_true, Bool.not_false, cond_true, cond_false]
theorem keeps_noo_l0 (v1 : Int) (v2 : Int) (v9 : Bool) (v12 : Bool) (v14 : Bool) (c0 : Heap) (c320 : Bool × Unit) (c464 : Unit) (c640 : Bool × Unit) (c800 : Bool × Unit) (r192 : List Int) (r256 : List Span) (r560 : List Int) (r561 : List Span) (r736 : List Int) (r737 : List Span) (hl : r192.length ≤ 512) : ∃ ws' : List Int, ws'.length = r192.length ∧ flotsamlaw07_HeapKeeps_noo_l0 (v1, v2, v9, v12, v14, 0, c0, c320, c464, c640, c800, r192, r256, r560, r561, r736, r737, ()) = some (.out (v1, v2, v9, v12, v14, c0, c320, c464, c640, c800, ws', r256, r560, r561, r736, r737, ())) := by
  unfold flotsamlaw07_HeapKeeps_noo_l0
  refine fill_rule (h := (.cons cI (.cons cI (.cons .bool (.cons .bool (.cons .bool (.cons cI (.cons cHeap (.cons (.cons .bool .nil) (.cons .nil (.cons (.cons .bool .nil) (.cons (.cons .bool .nil) (.cons (.sl (.int .u64)) (.cons (.sl cSpan) (.cons (.sl (.int .u64)) (.cons (.sl cSpan) (.cons (.sl (.int .u64)) (.cons (.sl cSpan) .nil)))))))))))))))))) (o := (.cons cI (.cons cI (.cons .bool (.cons .bool (.cons .bool (.cons cHeap (.cons (.cons .bool .nil) (.cons .nil (.cons (.cons .bool .nil) (.cons (.cons .bool .nil) (.cons (.sl (.int .u64)) (.cons (.sl cSpan) (.cons (.sl (.int .u64)) (.cons (.sl cSpan) (.cons (.sl (.int .u64)) (.cons (.sl cSpan) .nil))))))))))))))))) (r := .nil) (α := Int) (fuel := 9223372036854775808) (fun i ws => (v1, v2, v9, v12, v14, (i : Int), c0, c320, c464, c640, c800, ws, r256, r560, r561, r736, r737, ())) (fun ws' => (v1, v2, v9, v12, v14, c0, c320, c464, c640, c800, ws', r256, r560, r561, r736, r737, ())) r192.length (fun i ws hw hi => ?_) (fun ws hw => ?_) (by omega) rfl
  · refine ⟨ws.set i 77, by rw [List.length_set]; exact hw, ?_⟩
    simp only [flotsamlaw07_HeapKeeps_noo_s0, flotsamlaw07_HeapKeeps_noo_s0r, Bool.cond_decide]
    rw [if_pos (by omega), if_pos (by omega), if_pos (by omega), wi64_id (by omega) (by omega)]
    rfl
  · simp only [flotsamlaw07_HeapKeeps_noo_s0, flotsamlaw07_HeapKeeps_noo_s0r, Bool.cond_decide]
    rw [if_neg (by omega)]
theorem keeps_noo_l1 (v1 : Int) (v2 : Int) (v9 : Bool) (v12 : Bool) (v14 : Bool) (c0 : Heap) (c320 : Bool × Unit) (c464 : Unit) (c640 : Bool × Unit) (c800 : Bool × Unit) (r192 : List Int) (r256 : List Span) (r560 : List Int) (r561 : List Span) (r736 : List Int) (r737 : List Span) (hl : r256.length ≤ 512) : ∃ ws' : List Span, ws'.length = r256.length ∧ flotsamlaw07_HeapKeeps_noo_l1 (v1, v2, v9, v12, v14, 0, c0, c320, c464, c640, c800, r192, r256, r560, r561, r736, r737, ()) = some (.out (v1, v2, v9, v12, v14, c0, c464, c640, c800, r560, r561, r736, r737, ())) := by
  unfold flotsamlaw07_HeapKeeps_noo_l1
  refine fill_rule (h := (.cons cI (.cons cI (.cons .bool (.cons .bool (.cons .bool (.cons cI (.cons cHeap (.cons (.cons .bool .nil) (.cons .nil (.cons (.cons .bool .nil) (.cons (.cons .bool .nil) (.cons (.sl (.int .u64)) (.cons (.sl cSpan) (.cons (.sl (.int .u64)) (.cons (.sl cSpan) (.cons (.sl (.int .u64)) (.cons (.sl cSpan) .nil)))))))))))))))))) (o := (.cons cI (.cons cI (.cons .bool (.cons .bool (.cons .bool (.cons cHeap (.cons .nil (.cons (.cons .bool .nil) (.cons (.cons .bool .nil) (.cons (.sl (.int .u64)) (.cons (.sl cSpan) (.cons (.sl (.int .u64)) (.cons (.sl cSpan) .nil)))))))))))))) (r := .nil) (α := Span) (fuel := 9223372036854775808) (fun i ws => (v1, v2, v9, v12, v14, (i : Int), c0, c320, c464, c640, c800, r192, ws, r560, r561, r736, r737, ())) (fun ws' => (v1, v2, v9, v12, v14, c0, c464, c640, c800, r560, r561, r736, r737, ())) r256.length (fun i ws hw hi => ?_) (fun ws hw => ?_) (by omega) rfl
  · refine ⟨ws.set i (9, 0, 0, ()), by rw [List.length_set]; exact hw, ?_⟩
    simp only [flotsamlaw07_HeapKeeps_noo_s1, flotsamlaw07_HeapKeeps_noo_s1r, Bool.cond_decide]
    rw [if_pos (by omega), if_pos (by omega), if_pos (by omega), wi64_id (by omega) (by omega)]
    rfl
  · simp only [flotsamlaw07_HeapKeeps_noo_s1, flotsamlaw07_HeapKeeps_noo_s1r, Bool.cond_decide]
    rw [if_neg (by omega)]
theorem keeps_noo {h : Heap} (gh : Good cHeap h) (hb : formB h = true) (q : HP h) {a b : Int} (la : -9223372036854775808 ≤ a) (ua : a < 9223372036854775808) (o1 : ¬ openP h a b) (o2 : layP h a b) (o3 : freeP h a) : flotsamlaw07_HeapKeeps_noo (h, a, b, ()) = some (true, ()) := by
  have hn := q.f.n16
  have hl := q.f.len
  obtain ⟨i, hi, hk, e1⟩ := lay_o_in q.f q.fr o2
  obtain ⟨j, hj, _, _, e2⟩ := lay_in q.f q.fr o2
  obtain rfl := hi.uniq hj
  have hc : ∃ x, heap_Close_n (h, a, ()) = some ((), x, ()) := by
    by_cases c : closeP h a
    · exact ⟨_, close_n_in q.f c⟩
    · exact ⟨_, close_n_out c⟩
  obtain ⟨x, hc⟩ := hc
  have eh : (h.1, h.2.1, h.2.2.1, ()) = h := rfl
  simp only [flotsamlaw07_HeapKeeps_noo, flotsamlaw07_HeapKeeps_noo_r, awake07, form_eq gh, hb, eh, same7_self q.f, hc, open_n_out o1, open7_out o1, e1, e2, same7_self (laid_hp q o2 hk).f, free_o_in q.f q.fr o3, free7_in q.f q.fr o3, same7_self (freed_hp q o3).f, Option.bind_some, Bool.not_true, cond_false, Bool.cond_decide]
  rw [if_pos (by omega), if_pos (by omega)]
  obtain ⟨w1, h1, e3⟩ := keeps_noo_l0 a b false true true h (h.2.2.1, ()) () ((laid h a i b).2.2) ((freed h a).2.2) h.1 h.2.1 ((laid h a i b).1) ((laid h a i b).2.1) ((freed h a).1) ((freed h a).2.1) (by omega)
  rw [e3, Option.bind_some]
  dsimp only
  obtain ⟨w2, h2, e4⟩ := keeps_noo_l1 a b false true true h (h.2.2.1, ()) () ((laid h a i b).2.2) ((freed h a).2.2) w1 h.2.1 ((laid h a i b).1) ((laid h a i b).2.1) ((freed h a).1) ((freed h a).2.1) (by show h.2.1.length ≤ 512; omega)
  rw [e4, Option.bind_some]
  dsimp only
  simp only [open_n_out o1, open7_out o1, e1, e2, same7_self (laid_hp q o2 hk).f, free_o_in q.f q.fr o3, free7_in q.f q.fr o3, same7_self (freed_hp q o3).f, Option.bind_some, Bool.not_true, Bool.not_false, cond_true, cond_false]
theorem keeps_non_l0 (v1 : Int) (v2 : Int) (v9 : Bool) (v12 : Bool) (v14 : Bool) (c0 : Heap) (c320 : Bool × Unit) (c464 : Unit) (c640 : Bool × Unit) (c800 : Unit) (r192 : List Int) (r256 : List Span) (r560 : List Int) (r561 : List Span) (hl : r192.length ≤ 512) : ∃ ws' : List Int, ws'.length = r192.length ∧ flotsamlaw07_HeapKeeps_non_l0 (v1, v2, v9, v12, v14, 0, c0, c320, c464, c640, c800, r192, r256, r560, r561, ()) = some (.out (v1, v2, v9, v12, v14, c0, c320, c464, c640, c800, ws', r256, r560, r561, ())) := by
  unfold flotsamlaw07_HeapKeeps_non_l0
  refine fill_rule (h := (.cons cI (.cons cI (.cons .bool (.cons .bool (.cons .bool (.cons cI (.cons cHeap (.cons (.cons .bool .nil) (.cons .nil (.cons (.cons .bool .nil) (.cons .nil (.cons (.sl (.int .u64)) (.cons (.sl cSpan) (.cons (.sl (.int .u64)) (.cons (.sl cSpan) .nil)))))))))))))))) (o := (.cons cI (.cons cI (.cons .bool (.cons .bool (.cons .bool (.cons cHeap (.cons (.cons .bool .nil) (.cons .nil (.cons (.cons .bool .nil) (.cons .nil (.cons (.sl (.int .u64)) (.cons (.sl cSpan) (.cons (.sl (.int .u64)) (.cons (.sl cSpan) .nil))))))))))))))) (r := .nil) (α := Int) (fuel := 9223372036854775808) (fun i ws => (v1, v2, v9, v12, v14, (i : Int), c0, c320, c464, c640, c800, ws, r256, r560, r561, ())) (fun ws' => (v1, v2, v9, v12, v14, c0, c320, c464, c640, c800, ws', r256, r560, r561, ())) r192.length (fun i ws hw hi => ?_) (fun ws hw => ?_) (by omega) rfl
  · refine ⟨ws.set i 77, by rw [List.length_set]; exact hw, ?_⟩
    simp only [flotsamlaw07_HeapKeeps_non_s0, flotsamlaw07_HeapKeeps_non_s0r, Bool.cond_decide]
    rw [if_pos (by omega), if_pos (by omega), if_pos (by omega), wi64_id (by omega) (by omega)]
    rfl
  · simp only [flotsamlaw07_HeapKeeps_non_s0, flotsamlaw07_HeapKeeps_non_s0r, Bool.cond_decide]
    rw [if_neg (by omega)]
theorem keeps_non_l1 (v1 : Int) (v2 : Int) (v9 : Bool) (v12 : Bool) (v14 : Bool) (c0 : Heap) (c320 : Bool × Unit) (c464 : Unit) (c640 : Bool × Unit) (c800 : Unit) (r192 : List Int) (r256 : List Span) (r560 : List Int) (r561 : List Span) (hl : r256.length ≤ 512) : ∃ ws' : List Span, ws'.length = r256.length ∧ flotsamlaw07_HeapKeeps_non_l1 (v1, v2, v9, v12, v14, 0, c0, c320, c464, c640, c800, r192, r256, r560, r561, ()) = some (.out (v1, v2, v9, v12, v14, c0, c464, c640, c800, r560, r561, ())) := by
  unfold flotsamlaw07_HeapKeeps_non_l1
  refine fill_rule (h := (.cons cI (.cons cI (.cons .bool (.cons .bool (.cons .bool (.cons cI (.cons cHeap (.cons (.cons .bool .nil) (.cons .nil (.cons (.cons .bool .nil) (.cons .nil (.cons (.sl (.int .u64)) (.cons (.sl cSpan) (.cons (.sl (.int .u64)) (.cons (.sl cSpan) .nil)))))))))))))))) (o := (.cons cI (.cons cI (.cons .bool (.cons .bool (.cons .bool (.cons cHeap (.cons .nil (.cons (.cons .bool .nil) (.cons .nil (.cons (.sl (.int .u64)) (.cons (.sl cSpan) .nil)))))))))))) (r := .nil) (α := Span) (fuel := 9223372036854775808) (fun i ws => (v1, v2, v9, v12, v14, (i : Int), c0, c320, c464, c640, c800, r192, ws, r560, r561, ())) (fun ws' => (v1, v2, v9, v12, v14, c0, c464, c640, c800, r560, r561, ())) r256.length (fun i ws hw hi => ?_) (fun ws hw => ?_) (by omega) rfl
  · refine ⟨ws.set i (9, 0, 0, ()), by rw [List.length_set]; exact hw, ?_⟩
    simp only [flotsamlaw07_HeapKeeps_non_s1, flotsamlaw07_HeapKeeps_non_s1r, Bool.cond_decide]
    rw [if_pos (by omega), if_pos (by omega), if_pos (by omega), wi64_id (by omega) (by omega)]
    rfl
  · simp only [flotsamlaw07_HeapKeeps_non_s1, flotsamlaw07_HeapKeeps_non_s1r, Bool.cond_decide]
    rw [if_neg (by omega)]
theorem keeps_non {h : Heap} (gh : Good cHeap h) (hb : formB h = true) (q : HP h) {a b : Int} (la : -9223372036854775808 ≤ a) (ua : a < 9223372036854775808) (o1 : ¬ openP h a b) (o2 : layP h a b) (o3 : ¬ freeP h a) : flotsamlaw07_HeapKeeps_non (h, a, b, ()) = some (true, ()) := by
  have hn := q.f.n16
  have hl := q.f.len
  obtain ⟨i, hi, hk, e1⟩ := lay_o_in q.f q.fr o2
  obtain ⟨j, hj, _, _, e2⟩ := lay_in q.f q.fr o2
  obtain rfl := hi.uniq hj
  have hc : ∃ x, heap_Close_n (h, a, ()) = some ((), x, ()) := by
    by_cases c : closeP h a
    · exact ⟨_, close_n_in q.f c⟩
    · exact ⟨_, close_n_out c⟩
  obtain ⟨x, hc⟩ := hc
  have eh : (h.1, h.2.1, h.2.2.1, ()) = h := rfl
  simp only [flotsamlaw07_HeapKeeps_non, flotsamlaw07_HeapKeeps_non_r, awake07, form_eq gh, hb, eh, same7_self q.f, hc, open_n_out o1, open7_out o1, e1, e2, same7_self (laid_hp q o2 hk).f, free_n_out q.f q.fr la ua o3, free7_out q.f q.fr o3, Option.bind_some, Bool.not_true, cond_false, Bool.cond_decide]
  rw [if_pos (by omega), if_pos (by omega)]
  obtain ⟨w1, h1, e3⟩ := keeps_non_l0 a b false true false h (h.2.2.1, ()) () ((laid h a i b).2.2) () h.1 h.2.1 ((laid h a i b).1) ((laid h a i b).2.1) (by omega)
  rw [e3, Option.bind_some]
  dsimp only
  obtain ⟨w2, h2, e4⟩ := keeps_non_l1 a b false true false h (h.2.2.1, ()) () ((laid h a i b).2.2) () w1 h.2.1 ((laid h a i b).1) ((laid h a i b).2.1) (by show h.2.1.length ≤ 512; omega)
  rw [e4, Option.bind_some]
  dsimp only
  simp only [open_n_out o1, open7_out o1, e1, e2, same7_self (laid_hp q o2 hk).f, free_n_out q.f q.fr la ua o3, free7_out q.f q.fr o3, Option.bind_some, Bool.not_true, Bool.not_false, cond_true, cond_false]
theorem keeps_nno_l0 (v1 : Int) (v2 : Int) (v9 : Bool) (v12 : Bool) (v14 : Bool) (c0 : Heap) (c320 : Bool × Unit) (c464 : Unit) (c640 : Unit) (c800 : Bool × Unit) (r192 : List Int) (r256 : List Span) (r736 : List Int) (r737 : List Span) (hl : r192.length ≤ 512) : ∃ ws' : List Int, ws'.length = r192.length ∧ flotsamlaw07_HeapKeeps_nno_l0 (v1, v2, v9, v12, v14, 0, c0, c320, c464, c640, c800, r192, r256, r736, r737, ()) = some (.out (v1, v2, v9, v12, v14, c0, c320, c464, c640, c800, ws', r256, r736, r737, ())) := by
  unfold flotsamlaw07_HeapKeeps_nno_l0
  refine fill_rule (h := (.cons cI (.cons cI (.cons .bool (.cons .bool (.cons .bool (.cons cI (.cons cHeap (.cons (.cons .bool .nil) (.cons .nil (.cons .nil (.cons (.cons .bool .nil) (.cons (.sl (.int .u64)) (.cons (.sl cSpan) (.cons (.sl (.int .u64)) (.cons (.sl cSpan) .nil)))))))))))))))) (o := (.cons cI (.cons cI (.cons .bool (.cons .bool (.cons .bool (.cons cHeap (.cons (.cons .bool .nil) (.cons .nil (.cons .nil (.cons (.cons .bool .nil) (.cons (.sl (.int .u64)) (.cons (.sl cSpan) (.cons (.sl (.int .u64)) (.cons (.sl cSpan) .nil))))))))))))))) (r := .nil) (α := Int) (fuel := 9223372036854775808) (fun i ws => (v1, v2, v9, v12, v14, (i : Int), c0, c320, c464, c640, c800, ws, r256, r736, r737, ())) (fun ws' => (v1, v2, v9, v12, v14, c0, c320, c464, c640, c800, ws', r256, r736, r737, ())) r192.length (fun i ws hw hi => ?_) (fun ws hw => ?_) (by omega) rfl
  · refine ⟨ws.set i 77, by rw [List.length_set]; exact hw, ?_⟩
    simp only [flotsamlaw07_HeapKeeps_nno_s0, flotsamlaw07_HeapKeeps_nno_s0r, Bool.cond_decide]
    rw [if_pos (by omega), if_pos (by omega), if_pos (by omega), wi64_id (by omega) (by omega)]
    rfl
  · simp only [flotsamlaw07_HeapKeeps_nno_s0, flotsamlaw07_HeapKeeps_nno_s0r, Bool.cond_decide]
    rw [if_neg (by omega)]
theorem keeps_nno_l1 (v1 : Int) (v2 : Int) (v9 : Bool) (v12 : Bool) (v14 : Bool) (c0 : Heap) (c320 : Bool × Unit) (c464 : Unit) (c640 : Unit) (c800 : Bool × Unit) (r192 : List Int) (r256 : List Span) (r736 : List Int) (r737 : List Span) (hl : r256.length ≤ 512) : ∃ ws' : List Span, ws'.length = r256.length ∧ flotsamlaw07_HeapKeeps_nno_l1 (v1, v2, v9, v12, v14, 0, c0, c320, c464, c640, c800, r192, r256, r736, r737, ()) = some (.out (v1, v2, v9, v12, v14, c0, c464, c640, c800, r736, r737, ())) := by
  unfold flotsamlaw07_HeapKeeps_nno_l1
  refine fill_rule (h := (.cons cI (.cons cI (.cons .bool (.cons .bool (.cons .bool (.cons cI (.cons cHeap (.cons (.cons .bool .nil) (.cons .nil (.cons .nil (.cons (.cons .bool .nil) (.cons (.sl (.int .u64)) (.cons (.sl cSpan) (.cons (.sl (.int .u64)) (.cons (.sl cSpan) .nil)))))))))))))))) (o := (.cons cI (.cons cI (.cons .bool (.cons .bool (.cons .bool (.cons cHeap (.cons .nil (.cons .nil (.cons (.cons .bool .nil) (.cons (.sl (.int .u64)) (.cons (.sl cSpan) .nil)))))))))))) (r := .nil) (α := Span) (fuel := 9223372036854775808) (fun i ws => (v1, v2, v9, v12, v14, (i : Int), c0, c320, c464, c640, c800, r192, ws, r736, r737, ())) (fun ws' => (v1, v2, v9, v12, v14, c0, c464, c640, c800, r736, r737, ())) r256.length (fun i ws hw hi => ?_) (fun ws hw => ?_) (by omega) rfl
  · refine ⟨ws.set i (9, 0, 0, ()), by rw [List.length_set]; exact hw, ?_⟩
    simp only [flotsamlaw07_HeapKeeps_nno_s1, flotsamlaw07_HeapKeeps_nno_s1r, Bool.cond_decide]
    rw [if_pos (by omega), if_pos (by omega), if_pos (by omega), wi64_id (by omega) (by omega)]
    rfl
  · simp only [flotsamlaw07_HeapKeeps_nno_s1, flotsamlaw07_HeapKeeps_nno_s1r, Bool.cond_decide]
    rw [if_neg (by omega)]
theorem keeps_nno {h : Heap} (gh : Good cHeap h) (hb : formB h = true) (q : HP h) {a b : Int} (la : -9223372036854775808 ≤ a) (ua : a < 9223372036854775808) (o1 : ¬ openP h a b) (o2 : ¬ layP h a b) (o3 : freeP h a) : flotsamlaw07_HeapKeeps_nno (h, a, b, ()) = some (true, ()) := by
  have hn := q.f.n16
  have hl := q.f.len
  have hc : ∃ x, heap_Close_n (h, a, ()) = some ((), x, ()) := by
    by_cases c : closeP h a
    · exact ⟨_, close_n_in q.f c⟩
    · exact ⟨_, close_n_out c⟩
  obtain ⟨x, hc⟩ := hc
  have eh : (h.1, h.2.1, h.2.2.1, ()) = h := rfl
  simp only [flotsamlaw07_HeapKeeps_nno, flotsamlaw07_HeapKeeps_nno_r, awake07, form_eq gh, hb, eh, same7_self q.f, hc, open_n_out o1, open7_out o1, lay_n_out q.f q.fr o2, (lay_out q.f q.fr o2).2, free_o_in q.f q.fr o3, free7_in q.f q.fr o3, same7_self (freed_hp q o3).f, Option.bind_some, Bool.not_true, cond_false, Bool.cond_decide]
  rw [if_pos (by omega), if_pos (by omega)]
  obtain ⟨w1, h1, e3⟩ := keeps_nno_l0 a b false false true h (h.2.2.1, ()) () () ((freed h a).2.2) h.1 h.2.1 ((freed h a).1) ((freed h a).2.1) (by omega)
  rw [e3, Option.bind_some]
  dsimp only
  obtain ⟨w2, h2, e4⟩ := keeps_nno_l1 a b false false true h (h.2.2.1, ()) () () ((freed h a).2.2) w1 h.2.1 ((freed h a).1) ((freed h a).2.1) (by show h.2.1.length ≤ 512; omega)
  rw [e4, Option.bind_some]
  dsimp only
  simp only [open_n_out o1, open7_out o1, lay_n_out q.f q.fr o2, (lay_out q.f q.fr o2).2, free_o_in q.f q.fr o3, free7_in q.f q.fr o3, same7_self (freed_hp q o3).f, Option.bind_some, Bool.not_true, Bool.not_false, cond_true, cond_false]
theorem keeps_nnn_l0 (v1 : Int) (v2 : Int) (v9 : Bool) (v12 : Bool) (v14 : Bool) (c0 : Heap) (c320 : Bool × Unit) (c464 : Unit) (c640 : Unit) (c800 : Unit) (r192 : List Int) (r256 : List Span) (hl : r192.length ≤ 512) : ∃ ws' : List Int, ws'.length = r192.length ∧ flotsamlaw07_HeapKeeps_nnn_l0 (v1, v2, v9, v12, v14, 0, c0, c320, c464, c640, c800, r192, r256, ()) = some (.out (v1, v2, v9, v12, v14, c0, c320, c464, c640, c800, ws', r256, ())) := by
  unfold flotsamlaw07_HeapKeeps_nnn_l0
  refine fill_rule (h := (.cons cI (.cons cI (.cons .bool (.cons .bool (.cons .bool (.cons cI (.cons cHeap (.cons (.cons .bool .nil) (.cons .nil (.cons .nil (.cons .nil (.cons (.sl (.int .u64)) (.cons (.sl cSpan) .nil)))))))))))))) (o := (.cons cI (.cons cI (.cons .bool (.cons .bool (.cons .bool (.cons cHeap (.cons (.cons .bool .nil) (.cons .nil (.cons .nil (.cons .nil (.cons (.sl (.int .u64)) (.cons (.sl cSpan) .nil))))))))))))) (r := .nil) (α := Int) (fuel := 9223372036854775808) (fun i ws => (v1, v2, v9, v12, v14, (i : Int), c0, c320, c464, c640, c800, ws, r256, ())) (fun ws' => (v1, v2, v9, v12, v14, c0, c320, c464, c640, c800, ws', r256, ())) r192.length (fun i ws hw hi => ?_) (fun ws hw => ?_) (by omega) rfl
  · refine ⟨ws.set i 77, by rw [List.length_set]; exact hw, ?_⟩
    simp only [flotsamlaw07_HeapKeeps_nnn_s0, flotsamlaw07_HeapKeeps_nnn_s0r, Bool.cond_decide]
    rw [if_pos (by omega), if_pos (by omega), if_pos (by omega), wi64_id (by omega) (by omega)]
    rfl
  · simp only [flotsamlaw07_HeapKeeps_nnn_s0, flotsamlaw07_HeapKeeps_nnn_s0r, Bool.cond_decide]
    rw [if_neg (by omega)]
theorem keeps_nnn_l1 (v1 : Int) (v2 : Int) (v9 : Bool) (v12 : Bool) (v14 : Bool) (c0 : Heap) (c320 : Bool × Unit) (c464 : Unit) (c640 : Unit) (c800 : Unit) (r192 : List Int) (r256 : List Span) (hl : r256.length ≤ 512) : ∃ ws' : List Span, ws'.length = r256.length ∧ flotsamlaw07_HeapKeeps_nnn_l1 (v1, v2, v9, v12, v14, 0, c0, c320, c464, c640, c800, r192, r256, ()) = some (.out (v1, v2, v9, v12, v14, c0, c464, c640, c800, ())) := by
  unfold flotsamlaw07_HeapKeeps_nnn_l1
  refine fill_rule (h := (.cons cI (.cons cI (.cons .bool (.cons .bool (.cons .bool (.cons cI (.cons cHeap (.cons (.cons .bool .nil) (.cons .nil (.cons .nil (.cons .nil (.cons (.sl (.int .u64)) (.cons (.sl cSpan) .nil)))))))))))))) (o := (.cons cI (.cons cI (.cons .bool (.cons .bool (.cons .bool (.cons cHeap (.cons .nil (.cons .nil (.cons .nil .nil)))))))))) (r := .nil) (α := Span) (fuel := 9223372036854775808) (fun i ws => (v1, v2, v9, v12, v14, (i : Int), c0, c320, c464, c640, c800, r192, ws, ())) (fun ws' => (v1, v2, v9, v12, v14, c0, c464, c640, c800, ())) r256.length (fun i ws hw hi => ?_) (fun ws hw => ?_) (by omega) rfl
  · refine ⟨ws.set i (9, 0, 0, ()), by rw [List.length_set]; exact hw, ?_⟩
    simp only [flotsamlaw07_HeapKeeps_nnn_s1, flotsamlaw07_HeapKeeps_nnn_s1r, Bool.cond_decide]
    rw [if_pos (by omega), if_pos (by omega), if_pos (by omega), wi64_id (by omega) (by omega)]
    rfl
  · simp only [flotsamlaw07_HeapKeeps_nnn_s1, flotsamlaw07_HeapKeeps_nnn_s1r, Bool.cond_decide]
    rw [if_neg (by omega)]
theorem keeps_nnn {h : Heap} (gh : Good cHeap h) (hb : formB h = true) (q : HP h) {a b : Int} (la : -9223372036854775808 ≤ a) (ua : a < 9223372036854775808) (o1 : ¬ openP h a b) (o2 : ¬ layP h a b) (o3 : ¬ freeP h a) : flotsamlaw07_HeapKeeps_nnn (h, a, b, ()) = some (true, ()) := by
  have hn := q.f.n16
  have hl := q.f.len
  have hc : ∃ x, heap_Close_n (h, a, ()) = some ((), x, ()) := by
    by_cases c : closeP h a
    · exact ⟨_, close_n_in q.f c⟩
    · exact ⟨_, close_n_out c⟩
  obtain ⟨x, hc⟩ := hc
  have eh : (h.1, h.2.1, h.2.2.1, ()) = h := rfl
  simp only [flotsamlaw07_HeapKeeps_nnn, flotsamlaw07_HeapKeeps_nnn_r, awake07, form_eq gh, hb, eh, same7_self q.f, hc, open_n_out o1, open7_out o1, lay_n_out q.f q.fr o2, (lay_out q.f q.fr o2).2, free_n_out q.f q.fr la ua o3, free7_out q.f q.fr o3, Option.bind_some, Bool.not_true, cond_false, Bool.cond_decide]
  rw [if_pos (by omega), if_pos (by omega)]
  obtain ⟨w1, h1, e3⟩ := keeps_nnn_l0 a b false false false h (h.2.2.1, ()) () () () h.1 h.2.1 (by omega)
  rw [e3, Option.bind_some]
  dsimp only
  obtain ⟨w2, h2, e4⟩ := keeps_nnn_l1 a b false false false h (h.2.2.1, ()) () () () w1 h.2.1 (by show h.2.1.length ≤ 512; omega)
  rw [e4, Option.bind_some]
  dsimp only
  simp only [open_n_out o1, open7_out o1, lay_n_out q.f q.fr o2, (lay_out q.f q.fr o2).2, free_n_out q.f q.fr la ua o3, free7_out q.f q.fr o3, Option.bind_some, Bool.not_true, Bool.not_false, cond_true, cond_false]
theorem heapKeeps_pure : ∀ x, Good (.cons cHeap cVal) x → flotsamlaw07_HeapKeeps x = some (true, ()) := by
  rintro ⟨(h : Heap), (a : Int), (b : Int), ⟨⟩⟩ ⟨gh, ga, gb⟩
  have gh : Good cHeap h := gh
  have ga : (-9223372036854775808 : Int) ≤ a ∧ a ≤ 9223372036854775807 := ga
  cases hb : formB h
  · refine anyTrue_of (F := flotsamlaw07_HeapKeeps_nnn) (by simp) ?_
    simp only [flotsamlaw07_HeapKeeps_nnn, flotsamlaw07_HeapKeeps_nnn_r, awake07, form_eq gh, hb, Option.bind_some, Bool.not_true, cond_false, Bool.not_false, cond_true]
  have q := hp_of gh hb
  have ua : a < 9223372036854775808 := by omega
  by_cases o1 : openP h a b
  · have o2 : ¬ layP h a b := fun l => by have := l.2.1; have := o1.2.2.2; omega
    by_cases o3 : freeP h a
    · exact anyTrue_of (F := flotsamlaw07_HeapKeeps_ono) (by simp) (keeps_ono gh hb q ga.1 ua o1 o2 o3)
    · exact anyTrue_of (F := flotsamlaw07_HeapKeeps_onn) (by simp) (keeps_onn gh hb q ga.1 ua o1 o2 o3)
  by_cases o2 : layP h a b
  · by_cases o3 : freeP h a
    · exact anyTrue_of (F := flotsamlaw07_HeapKeeps_noo) (by simp) (keeps_noo gh hb q ga.1 ua o1 o2 o3)
    · exact anyTrue_of (F := flotsamlaw07_HeapKeeps_non) (by simp) (keeps_non gh hb q ga.1 ua o1 o2 o3)
  by_cases o3 : freeP h a
  · exact anyTrue_of (F := flotsamlaw07_HeapKeeps_nno) (by simp) (keeps_nno gh hb q ga.1 ua o1 o2 o3)
  · exact anyTrue_of (F := flotsamlaw07_HeapKeeps_nnn) (by simp) (keeps_nnn gh hb q ga.1 ua o1 o2 o3)
end Go.Proofs.YtdfhopakojmjkaaDoor.Dfk
