/- Pure laws. -/
import Derived.Test.YtbkjmefhenpmlaaGreatDoorDenP3
import Derived.Test.YtbkjmefhenpmlaaGreatDoorDenP2
import Derived.Test.YtbkjmefhenpmlaaGreatDoorDenP1
/- Pure laws: fields lie within their blocks; a field set. -/
namespace Go.Proofs.YtbkjmefhenpmlaaGreatDoor.Den
open Go
set_option linter.unusedVariables false
set_option linter.unusedSimpArgs false
set_option maxRecDepth 100000
theorem two_cw {c : Int} (h0 : 0 ≤ c) (h1 : c < 4) : (2 : Int) ^ (c.toNat + 1) = cw c := by
 obtain rfl | rfl | rfl | rfl : c = 0 ∨ c = 1 ∨ c = 2 ∨ c = 3 := by omega
 all_goals decide
theorem fil_obj {h : Heap} (q : HP h) (F : FilP h) {a : Int} (ho : okA h a = true) : ∃ p i w : Nat, BlkF h p i w ∧ (blA h p i : Int) = a ∧ 0 ≤ cnt h a ∧ cnt h a < w := by
 obtain ⟨hb, hk, -, e⟩ := og_ok ho
 obtain ⟨p, i, hp, hs, hi, rfl, -⟩ := fnd_blkX q.f hb
 obtain ⟨w, B⟩ := blkF_of q.f hp hs hi
 have hc := (F p i hp hs hi).2 ho
 refine ⟨p, i, w, B, rfl, ?_⟩
 unfold cnt
 rw [e] at hc ⊢
 obtain ⟨n, hn⟩ : ∃ n, h.1.getD ((blA h p i : Nat) : Int).toNat 0 = n := ⟨_, rfl⟩
 rw [hn] at hk hc ⊢
 unfold hok at hk
 simp only [Bool.and_eq_true, decide_eq_true_eq] at hk
 have h2 := hk.2
 rw [two_cw (by omega) (by omega)] at h2
 have hc : n / 16 % 4 = (h.2.1.getD p sz).2.1 := hc
 rw [hc, B.cw_] at h2
 show 0 ≤ n % 16 ∧ n % 16 < (w : Int)
 omega
theorem blk_same {h : Heap} {p i w p' i' w' : Nat} (B : BlkF h p i w) (B' : BlkF h p' i' w') {j j' : Nat} (hj : j < w) (hj' : j' < w') (e : blA h p i + j = blA h p' i' + j') : p = p' ∧ i = i' ∧ j = j' := by
 have a1 := B.a_
 have a2 := B'.a_
 have i1 := B.in_
 have i2 := B'.in_
 have ep : p = p' := by
  rcases B.wb with rfl | rfl | rfl | rfl <;> rcases B'.wb with rfl | rfl | rfl | rfl <;> omega
 subst ep
 have ew : w' = w := by have := B.w_; have := B'.w_; omega
 subst ew
 have ei : i = i' := by rcases B.wb with rfl | rfl | rfl | rfl <;> omega
 subst ei
 exact ⟨rfl, rfl, by omega⟩
theorem fld_blk {h : Heap} (q : HP h) (F : FilP h) {a i b : Int} (e : fe h a i = 0) (hb : fndB h b = true) : a + 1 + i ≠ b := by
 obtain ⟨ho, i0, i1⟩ := fe_okU e
 obtain ⟨p, k, w, B, rfl, c0, c1⟩ := fil_obj q F ho
 obtain ⟨p', k', hp', hs', hk', rfl, -⟩ := fnd_blkX q.f hb
 obtain ⟨w', B'⟩ := blkF_of q.f hp' hs' hk'
 intro he
 unfold cnt at c1
 have hw' : 0 < w' := by rcases B'.wb with rfl | rfl | rfl | rfl <;> decide
 have := (blk_same B B' (j := (1 + i).toNat) (j' := 0) (by omega) hw' (by omega)).2.2
 omega
theorem fld_inj {h : Heap} (q : HP h) (F : FilP h) {a i b j : Int} (e : fe h a i = 0) (e' : fe h b j = 0) (he : a + 1 + i = b + 1 + j) : a = b ∧ i = j := by
 obtain ⟨ho, i0, i1⟩ := fe_okU e
 obtain ⟨p, k, w, B, rfl, c0, c1⟩ := fil_obj q F ho
 obtain ⟨ho', i0', i1'⟩ := fe_okU e'
 obtain ⟨p', k', w', B', rfl, c0', c1'⟩ := fil_obj q F ho'
 unfold cnt at c1 c1'
 obtain ⟨rfl, rfl, hj⟩ := blk_same B B' (j := (1 + i).toNat) (j' := (1 + j).toNat) (by omega) (by omega) (by omega)
 exact ⟨rfl, by omega⟩
def setO (h : Heap) (a i : Int) (v : Val) : Heap := if fe h a i = 0 ∧ mayB v = true then stH h a i v else h
theorem putV_rng {v : Val} (hv : mayB v = true) (hr : v.2.1 ≤ 9223372036854775807) : 0 ≤ putV v ∧ putV v < 18446744073709551616 := by
 unfold mayB at hv
 unfold putV
 split at hv
 ·rename_i e
  rw [if_pos e]
  omega
 ·rename_i e0
  rw [if_neg e0]
  split at hv
  ·rename_i e
   simp only [decide_eq_true_eq] at hv
   rw [if_pos e]
   omega
  ·rename_i e1
   rw [if_neg e1]
   split at hv
   ·simp only [Bool.and_eq_true, decide_eq_true_eq] at hv
    omega
   ·cases hv
theorem rg_put {v : Val} (hv : mayB v = true) (hr : v.2.1 ≤ 9223372036854775807) : rg (putV v) = v := by
 obtain ⟨k, n, ⟨⟩⟩ := v
 unfold mayB at hv
 unfold putV rg
 simp only at hv hr ⊢
 split at hv
 ·rename_i e
  simp only [decide_eq_true_eq] at hv
  rw [if_pos e, if_pos rfl, e, hv]
  rfl
 ·rename_i e0
  rw [if_neg e0]
  split at hv
  ·rename_i e
   simp only [decide_eq_true_eq] at hv
   rw [if_pos e, if_neg (by omega)]
   have h1 : (2 * n + 1).tmod 2 = 1 := by rw [Int.tmod_eq_emod_of_nonneg (by omega)]; omega
   have h2 : (2 * n + 1).tdiv 2 = n := by rw [Int.tdiv_eq_ediv_of_nonneg (by omega)]; omega
   rw [if_pos h1, h2, wu64_id (by omega) (by omega), wi64_id (by omega) (by omega), e]
  ·rename_i e1
   rw [if_neg e1]
   split at hv
   ·rename_i e
    simp only [Bool.and_eq_true, decide_eq_true_eq] at hv
    rw [if_neg (by omega)]
    have h1 : ¬ (2 * (n + 1)).tmod 2 = 1 := by rw [Int.tmod_eq_emod_of_nonneg (by omega)]; omega
    have h2 : (2 * (n + 1)).tdiv 2 = n + 1 := by rw [Int.tdiv_eq_ediv_of_nonneg (by omega)]; omega
    rw [if_neg h1, h2, wu64_id (n := n + 1) (by omega) (by omega), show n + 1 - 1 = n by omega, wu64_id (by omega) (by omega), wi64_id (by omega) (by omega), e]
   ·cases hv
theorem stH_word {h : Heap} (a i : Int) (v : Val) {k : Nat} (hk : k ≠ (a + 1 + i).toNat) : (stH h a i v).1.getD k 0 = h.1.getD k 0 := by
 show (List.set _ _ _).getD k 0 = _
 rw [getD_set_ne (fun e => hk e.symm)]
theorem og_st {h : Heap} (q : HP h) (F : FilP h) {a i : Int} {v : Val} (e : fe h a i = 0) (b : Int) : og (stH h a i v) b = og h b := by
 refine og_fnd rfl fun hb => stH_word a i v fun hh => ?_
 have h1 := fndB_rng hb
 obtain ⟨ho, i0, i1⟩ := fe_okU e
 have h2 := og_rng q.f ho
 exact fld_blk q F e hb (by omega)
theorem hp_st {h : Heap} (q : HP h) {a i : Int} {v : Val} (hv : mayB v = true) (hr : v.2.1 ≤ 9223372036854775807) : HP (stH h a i v) := by
 obtain ⟨p0, p1⟩ := putV_rng hv hr
 exact hp_words q (wp_set q.f.word _ p0 p1) (List.length_set)
theorem fil_st {h : Heap} (q : HP h) (F : FilP h) {a i : Int} {v : Val} (e : fe h a i = 0) : FilP (stH h a i v) := by
 intro p k hp hs hk
 have := F p k hp hs hk
 have e1 := og_st q F (v := v) e (blA h p k)
 show okA (stH h a i v) (blA h p k) = _ ∧ (okA (stH h a i v) (blA h p k) = true → (og (stH h a i v) (blA h p k)).1.2.2.1 = _)
 rw [show okA (stH h a i v) (blA h p k) = okA h (blA h p k) by unfold okA; rw [e1], e1]
 exact this
theorem fld_st {h : Heap} (q : HP h) (F : FilP h) {a i : Int} {v : Val} (e : fe h a i = 0) (hv : mayB v = true) (hr : v.2.1 ≤ 9223372036854775807) (x j : Int) : fldV (stH h a i v) x j = if x = a ∧ j = i then v else fldV h x j := by
 have he : fe (stH h a i v) x j = fe h x j := by unfold fe; rw [og_st q F e x]
 have hl := q.f.len
 obtain ⟨p0, p1⟩ := putV_rng hv hr
 unfold fldV
 rw [he]
 by_cases c : x = a ∧ j = i
 ·obtain ⟨rfl, rfl⟩ := c
  obtain ⟨ho, i0, i1⟩ := fe_okU e
  have h2 := og_rng q.f ho
  rw [if_pos e, if_pos ⟨rfl, rfl⟩]
  have hw : (stH h x j v).1.getD (x + 1 + j).toNat 0 = putV v := by
   show (List.set _ _ _).getD _ 0 = _
   rw [getD_set_self (by omega)]
  rw [hw, wg_rg p0 p1, rg_put hv hr]
 ·rw [if_neg c]
  by_cases e2 : fe h x j = 0
  ·rw [if_pos e2, if_pos e2]
   obtain ⟨ho, i0, i1⟩ := fe_okU e
   have h2 := og_rng q.f ho
   obtain ⟨ho', i0', i1'⟩ := fe_okU e2
   have h2' := og_rng q.f ho'
   rw [stH_word a i v fun hh => c (fld_inj q F e2 e (by omega))]
  ·rw [if_neg e2, if_neg e2]
def NzP (h : Heap) : Prop := ∀ j : Nat, h.1.getD j 0 ≠ 0 → ∃ a : Int, okA h a = true ∧ a ≤ j ∧ (j : Int) ≤ a + cnt h a
theorem cnt_congr {h g : Heap} {b : Int} (e : og g b = og h b) : cnt g b = cnt h b := by
 unfold cnt
 rw [e]
theorem nz_st {h : Heap} (q : HP h) (F : FilP h) (N : NzP h) {a i : Int} {v : Val} (e : fe h a i = 0) : NzP (stH h a i v) := by
 intro j hj
 obtain ⟨ho, i0, i1⟩ := fe_okU e
 have h2 := og_rng q.f ho
 by_cases c : j = (a + 1 + i).toNat
 ·refine ⟨a, by rw [ok_congr (og_st q F e a)]; exact ho, by omega, ?_⟩
  rw [cnt_congr (og_st q F e a)]
  unfold cnt
  omega
 ·rw [stH_word a i v c] at hj
  obtain ⟨x, hx, l, u⟩ := N j hj
  exact ⟨x, by rw [ok_congr (og_st q F e x)]; exact hx, l, by rw [cnt_congr (og_st q F e x)]; exact u⟩
theorem page_zero {h : Heap} (q : HP h) (N : NzP h) {p : Nat} (hs : stP h p = 0) {j : Nat} (h0 : 32 * p ≤ j) (h1 : j < 32 * p + 32) : h.1.getD j 0 = 0 := by
 by_cases e : h.1.getD j 0 = 0
 ·exact e
 ·obtain ⟨a, ho, l, u⟩ := N j e
  have hr := og_rng q.f ho
  unfold cnt at u
  have hd := of_decide_eq_true (og_ok ho).1
  have hp : (a / 32).toNat = p := by omega
  have h2 := hd.2.2.1
  unfold spanOf at h2
  rw [hp] at h2
  exact absurd hs h2
end Go.Proofs.YtbkjmefhenpmlaaGreatDoor.Den
/- Pure laws: stacks, fields and operations, by program and by document. -/
namespace Go.Proofs.YtbkjmefhenpmlaaGreatDoor.Den
open Go
set_option linter.unusedVariables false
set_option linter.unusedSimpArgs false
set_option maxRecDepth 100000
def psh (st : List Val) (room : Int) (v : Val) : List Val := if room ≤ st.length then st else st ++ [v]
end Go.Proofs.YtbkjmefhenpmlaaGreatDoor.Den
/- Pure laws: a mutator's turn, by program and by document. -/
namespace Go.Proofs.YtbkjmefhenpmlaaGreatDoor.Den
open Go
set_option linter.unusedVariables false
set_option linter.unusedSimpArgs false
set_option maxRecDepth 100000
abbrev EvT : Type := Int × Int × Int × Val × Unit
def curM (w : WrldT) (k : Nat) : MutT := w.2.2.1.getD k mz
def putM (w : WrldT) (k : Nat) (m : MutT) : WrldT := (w.1, w.2.1, w.2.2.1.set k m, w.2.2.2)
def restM (m : MutT) (st : List Val) : MutT := (st, 0, (0, 0, 0, 0, ()), 0, (0, 0, ()), m.2.2.2.2.2.1, ())
def doneW (w : WrldT) (k : Nat) (st : List Val) (e : Int) (v : Val) : WrldT × EvT × Unit := (putM w k (restM (curM w k) st), ((k : Int), 2, e, v, ()), ())
def pushW (w : WrldT) (k : Nat) (v : Val) : WrldT × EvT × Unit := doneW w k (psh (curM w k).1 w.1.2.2.1 v) 0 v
def heapW (w : WrldT) (h : Heap) : WrldT := (w.1, h, w.2.2)
structure TrnF (w : WrldT) (k : Nat) : Prop where
 p : HP w.2.1
 ml : w.2.2.1.length ≤ 1000
 st : ∀ m : MutT, m ∈ w.2.2.1 → m.1.length ≤ 1000
 h4 : Row4 (cachesW w.2.2.1)
 rt : RightP w.2.1 (cachesW w.2.2.1)
 k_ : k < w.2.2.1.length
 sp : StP (curM w k).1
 ob : -9223372036854775808 ≤ (curM w k).2.2.2.1 ∧ (curM w k).2.2.2.1 < 9223372036854775808
 vl : (curM w k).2.1 = 4 → (curM w k).2.2.2.2.1.2.1 ≤ 9223372036854775807
 mkp : w.2.2.2.2.1 = 1 → MkP w.2.1 w.2.2.2.1 ∧ k < w.2.2.2.1.2.1.length
 sd : 0 ≤ (curM w k).2.1 ∧ (curM w k).2.1 ≤ 4
end Go.Proofs.YtbkjmefhenpmlaaGreatDoor.Den
/- Pure laws: worlds whose mutators may have turns. -/
namespace Go.Proofs.YtbkjmefhenpmlaaGreatDoor.Den
open Go
set_option linter.unusedVariables false
set_option linter.unusedSimpArgs false
set_option maxRecDepth 100000
theorem mem_held {w : WrldT} {m : MutT} (hm : m ∈ w.2.2.1) {v : Val} (hv : v ∈ m.1) : v ∈ heldL w.2.2.1 := by
 unfold heldL
 exact List.mem_flatMap.2 ⟨m, hm, List.mem_append_left _ hv⟩
theorem curM_mem {w : WrldT} {k : Nat} (hk : k < w.2.2.1.length) : curM w k ∈ w.2.2.1 := by
 unfold curM
 rw [get_d _ _ _ hk]
 exact List.getElem_mem _
theorem TrnF.of {w : WrldT} (gw : Good cWrld w) (W : WF w) (hf : formW w = true) (hy : rdyW w = true) {k : Nat} (hk : k < w.2.2.1.length) : TrnF w k := by
 have hm := curM_mem hk
 have M := W.q.g.ms
 have hf2 := hf
 unfold formW at hf2
 simp only [Bool.and_eq_true, decide_eq_true_eq] at hf2
 have hr := rdy_iff.1 (List.all_eq_true.1 hy _ hm)
 have g := gw.2.2.1.2 _ hm
 refine ⟨W.p, by have := M.len; omega, fun m h => by have := M.st m h; omega, W.h4, hf2.2.2.2.2.2.2.1, hk, ⟨by have := M.st _ hm; omega, fun v hv => W.q.hv v (mem_held hm hv)⟩, M.obj _ hm, fun _ => g.2.2.2.2.1.2.1.2, fun e => ⟨W.hm e, ?_⟩, ⟨hr.1, hr.2.1⟩⟩
 have h2 := hf2.2.2.2.2.2.2.2
 unfold mkB at h2
 rw [if_pos e] at h2
 simp only [Bool.and_eq_true, decide_eq_true_eq] at h2
 omega
theorem caches_set {ms : List MutT} {k : Nat} {m : MutT} (e : m.2.2.2.2.2.1 = (ms.getD k mz).2.2.2.2.2.1) : cachesW (ms.set k m) = cachesW ms := by
 unfold cachesW
 rw [List.map_set]
 by_cases hk : k < ms.length
 ·rw [get_d _ _ _ hk] at e
  rw [e]
  have := @List.set_getElem_self _ (ms.map fun m => m.2.2.2.2.2.1) k (by rw [List.length_map]; exact hk)
  rw [List.getElem_map] at this
  exact this
 ·rw [List.set_eq_of_length_le (by rw [List.length_map]; omega)]
theorem cur_put {w : WrldT} {a b : Nat} (m : MutT) (hab : a ≠ b) : curM (putM w a m) b = curM w b := by
 unfold curM putM
 exact getD_set_ne hab _ _
theorem TrnF.put {w : WrldT} {a b : Nat} (T : TrnF w b) (Ta : TrnF w a) {m : MutT} (hab : a ≠ b) (hm : m.1.length ≤ 1000) (hc : m.2.2.2.2.2.1 = (curM w a).2.2.2.2.2.1) : TrnF (putM w a m) b := by
 have e := cur_put (w := w) m hab
 have ec : cachesW (putM w a m).2.2.1 = cachesW w.2.2.1 := caches_set hc
 refine ⟨T.p, ?_, fun x hx => ?_, by rw [ec]; exact T.h4, by rw [ec]; exact T.rt, ?_, by rw [e]; exact T.sp, by rw [e]; exact T.ob, by rw [e]; exact T.vl, T.mkp, by rw [e]; exact T.sd⟩
 ·show (List.set _ _ _).length ≤ _
  rw [List.length_set]
  exact T.ml
 ·rcases List.mem_or_eq_of_mem_set (show x ∈ w.2.2.1.set a m from hx) with h | h
  ·exact T.st x h
  ·rw [h]; exact hm
 ·show _ < (List.set _ _ _).length
  rw [List.length_set]
  exact T.k_
theorem SL.put {w : WrldT} (S : SL w) {a : Nat} {m : MutT} (hm : m.1.length ≤ 1000) : SL (putM w a m) := by
 refine ⟨S.hw, S.hs, ?_, fun x hx => ?_, S.gl, S.bl, S.il, S.rl, S.rp⟩
 ·show (List.set _ _ _).length ≤ _
  rw [List.length_set]
  exact S.ml
 ·rcases List.mem_or_eq_of_mem_set (show x ∈ w.2.2.1.set a m from hx) with h | h
  ·exact S.st x h
  ·rw [h]; exact hm
end Go.Proofs.YtbkjmefhenpmlaaGreatDoor.Den
/- Pure laws: what holds of a world whatever turns come: collectors' turns. -/
namespace Go.Proofs.YtbkjmefhenpmlaaGreatDoor.Den
open Go
set_option linter.unusedVariables false
set_option linter.unusedSimpArgs false
set_option maxRecDepth 100000
theorem og_spans {g k : Heap} (hw : k.1 = g.1) (hl : k.2.1.length = g.2.1.length) (hs : ∀ r, ((k.2.1.getD r sz).1 ≠ 0 ↔ (g.2.1.getD r sz).1 ≠ 0) ∧ (k.2.1.getD r sz).2 = (g.2.1.getD r sz).2) (b : Int) : og k b = og g b := by
 refine og_fnd ?_ fun _ => by rw [hw]
 obtain ⟨h1, h2⟩ := hs (b / 32).toNat
 unfold fndB spanOf
 rw [h2, hl]
 exact decide_eq_decide.2 ⟨fun ⟨a, b, c, d⟩ => ⟨a, b, h1.1 c, d⟩, fun ⟨a, b, c, d⟩ => ⟨a, b, h1.2 c, d⟩⟩
theorem beg_at (h : Heap) (r : Nat) : (begS h).2.1.getD r sz = dirtS (h.2.1.getD r sz) := by
 show (h.2.1.map dirtS).getD r sz = _
 rw [List.getD_eq_getElem?_getD, List.getElem?_map, List.getD_eq_getElem?_getD]
 cases h.2.1[r]? <;> rfl
theorem dirt_cases (s : Span) : ((dirtS s).1 ≠ 0 ↔ s.1 ≠ 0) ∧ (dirtS s).2 = s.2 := by
 unfold dirtS
 split
 ·rename_i e1
  exact ⟨⟨fun _ => by rw [e1]; decide, fun _ => by show (2 : Int) ≠ 0; decide⟩, rfl⟩
 ·exact ⟨Iff.rfl, rfl⟩
theorem og_beg (h : Heap) (b : Int) : og (begS h) b = og h b :=
 og_spans (g := h) (k := begS h) rfl (by show (h.2.1.map dirtS).length = _; rw [List.length_map]) (fun r => by rw [beg_at]; exact dirt_cases _) b
structure TW (w : WrldT) : Prop where
 I : IW w
 fl : FilP w.2.1
 nz : NzP w.2.1
 rd : rdyW w = true
 rl : w.2.2.2.1.2.2.1.length ≤ 1000
end Go.Proofs.YtbkjmefhenpmlaaGreatDoor.Den
/- Pure laws: what holds of a world whatever turns come: mutators' turns. -/
namespace Go.Proofs.YtbkjmefhenpmlaaGreatDoor.Den
open Go
set_option linter.unusedVariables false
set_option linter.unusedSimpArgs false
set_option maxRecDepth 100000
def i64P (n : Int) : Prop := -9223372036854775808 ≤ n ∧ n < 9223372036854775808
structure MGood (room : Int) (m : MutT) : Prop where
 st : (m.1.length : Int) ≤ room
 ob : i64P m.2.2.2.1
 hv : ∀ v : Val, v ∈ held1 m → i64P v.2.1
 rd : rdyB room m = true
theorem mem_setL {α : Type} {l : List α} {k : Nat} {x y : α} (h : y ∈ l.set k x) : y = x ∨ y ∈ l := (List.mem_or_eq_of_mem_set h).symm
theorem TW.cur {w : WrldT} (T : TW w) {k : Nat} (hk : k < w.2.2.1.length) : MGood w.1.2.2.1 (curM w k) := by
 have hm := curM_mem hk
 refine ⟨?_, T.I.ms.obj _ hm, fun v hv => T.I.hv v ?_, List.all_eq_true.1 T.rd _ hm⟩
 ·have := List.all_eq_true.1 T.I.st _ hm
  unfold stkB at this
  exact of_decide_eq_true this
 ·unfold heldL
  exact List.mem_flatMap.2 ⟨_, hm, hv⟩
theorem TW.room {w : WrldT} (T : TW w) : 1 ≤ w.1.2.2.1 ∧ w.1.2.2.1 ≤ 8 := ⟨T.I.hc.2.2.2.2.1, T.I.hc.2.2.2.2.2.1⟩
theorem ms_put {ms : List MutT} (M : MsP ms) {k : Nat} {m : MutT} {room : Int} (hr : room ≤ 8) (g : MGood room m) : MsP (ms.set k m) := by
 refine ⟨by rw [List.length_set]; exact M.len, fun x hx => ?_, fun x hx => ?_⟩
 ·rcases mem_setL hx with rfl | h
  ·have := g.st; omega
  ·exact M.st x h
 ·rcases mem_setL hx with rfl | h
  ·exact g.ob
  ·exact M.obj x h
theorem hv_put {ms : List MutT} (H : ∀ v : Val, v ∈ heldL ms → i64P v.2.1) {k : Nat} {m : MutT} {room : Int} (g : MGood room m) (v : Val) (hv : v ∈ heldL (ms.set k m)) : i64P v.2.1 := by
 unfold heldL at hv
 obtain ⟨x, hx, h⟩ := List.mem_flatMap.1 hv
 rcases mem_setL hx with rfl | h2
 ·exact g.hv v h
 ·exact H v (List.mem_flatMap.2 ⟨x, h2, h⟩)
theorem all_put {ms : List MutT} {P : MutT → Bool} (h : ms.all P = true) {k : Nat} {m : MutT} (hm : P m = true) : (ms.set k m).all P = true := by
 rw [List.all_eq_true] at h ⊢
 intro x hx
 rcases mem_setL hx with rfl | h2
 ·exact hm
 ·exact h x h2
theorem TW.put {w : WrldT} (T : TW w) {k : Nat} {m : MutT} (g : MGood w.1.2.2.1 m) (hc : m.2.2.2.2.2.1 = (curM w k).2.2.2.2.2.1) : TW (putM w k m) := by
 have I := T.I
 have ec : cachesW (putM w k m).2.2.1 = cachesW w.2.2.1 := caches_set hc
 have el : (putM w k m).2.2.1.length = w.2.2.1.length := List.length_set
 refine ⟨⟨I.p, ms_put I.ms T.room.2 g, hv_put I.hv g, by rw [ec]; exact I.h4, I.hc, I.sp, by rw [el]; exact I.ml, all_put I.st (by unfold stkB; exact decide_eq_true g.st), by rw [ec]; exact I.rt, I.ph, fun e => ⟨(I.mkw e).1, by rw [el]; exact (I.mkw e).2⟩, I.mr⟩, T.fl, T.nz, all_put T.rd g.rd, T.rl⟩
theorem rightP_sp {h g : Heap} {c : List (List Int)} (r : RightP h c) (e : g.2.1 = h.2.1) : RightP g c := by
 refine rightP_to r fun t _ _ v => ?_
 obtain ⟨⟨a, b⟩, c1, c2⟩ := v
 refine ⟨⟨a, by rw [e]; exact b⟩, ?_, ?_⟩
 ·unfold spanAt at c1 ⊢; rw [e]; exact c1
 ·unfold spanAt at c2 ⊢; rw [e]; exact c2
theorem fe_congr {h g : Heap} {a : Int} (e : og g a = og h a) (i : Int) : fe g a i = fe h a i := by
 unfold fe
 rw [e]
theorem MkP.to {h g : Heap} {m : MarkT} (p : MkP h m) (hl : g.1.length = h.1.length) (ho : ∀ a, okA h a = true → og g a = og h a) : MkP g m := by
 refine ⟨p.g, p.gi, p.b, p.bi, p.bl, p.rl, p.rv, by rw [hl]; exact p.cur, ?_⟩
 rcases p.ob with e | e
 ·exact .inl e
 ·right
  rw [fe_congr (ho _ (fe_ok e).1)]
  exact e
theorem TW.setO {w : WrldT} (T : TW w) {a i : Int} {v : Val} (hr : v.2.1 ≤ 9223372036854775807) : TW (heapW w (setO w.2.1 a i v)) := by
 have I := T.I
 unfold Go.Proofs.YtbkjmefhenpmlaaGreatDoor.Den.setO
 split
 ·rename_i c
  have ho := og_st I.p T.fl (v := v) c.1
  exact ⟨⟨hp_st I.p c.2 hr, I.ms, I.hv, I.h4, I.hc, I.sp, I.ml, I.st, rightP_sp I.rt rfl, I.ph, fun e => ⟨(I.mkw e).1.to List.length_set fun x _ => ho x, (I.mkw e).2⟩, I.mr⟩, fil_st I.p T.fl c.1, nz_st I.p T.fl T.nz c.1, T.rd, T.rl⟩
 ·exact T
theorem rest_good {room : Int} (hr : 1 ≤ room) {m : MutT} {st : List Val} (h1 : (st.length : Int) ≤ room) (h2 : ∀ v : Val, v ∈ st → i64P v.2.1) : MGood room (restM m st) := by
 refine ⟨h1, by show i64P 0; unfold i64P; omega, fun v hv => ?_, rdy_iff.2 ?_⟩
 ·have hv : v ∈ st ++ [] := hv
  rw [List.append_nil] at hv
  exact h2 v hv
 ·show (0 : Int) ≤ 0 ∧ (0 : Int) ≤ 4 ∧ ((1 : Int) ≤ 0 → (0 : Int) ≤ 3 → (st.length : Int) < room) ∧ ((0 : Int) = 1 → _)
  exact ⟨by decide, by decide, fun h => absurd h (by decide), fun h => absurd h (by decide)⟩
theorem psh_in {st : List Val} {room : Int} {v x : Val} (h : x ∈ psh st room v) : x ∈ st ∨ x = v := by
 unfold psh at h
 split at h
 ·exact .inl h
 ·rcases List.mem_append.1 h with h | h
  ·exact .inl h
  ·exact .inr (List.mem_singleton.1 h)
theorem psh_room {st : List Val} {room : Int} (v : Val) (h : (st.length : Int) ≤ room) : ((psh st room v).length : Int) ≤ room := by
 unfold psh
 split
 ·exact h
 ·rw [List.length_append, List.length_singleton]; omega
theorem TW.done {w : WrldT} (T : TW w) {k : Nat} {st : List Val} {e : Int} {v : Val} (h1 : (st.length : Int) ≤ w.1.2.2.1) (h2 : ∀ v : Val, v ∈ st → i64P v.2.1) : TW (doneW w k st e v).1 :=
 T.put (rest_good T.room.1 h1 h2) rfl
theorem TW.push {w : WrldT} (T : TW w) {k : Nat} (hk : k < w.2.2.1.length) {v : Val} (h : i64P v.2.1) : TW (pushW w k v).1 := by
 have g := T.cur hk
 refine T.done (psh_room v g.st) fun x hx => ?_
 rcases psh_in hx with hx | rfl
 ·exact g.hv x (List.mem_append_left _ hx)
 ·exact h
end Go.Proofs.YtbkjmefhenpmlaaGreatDoor.Den
/- Pure laws: what is reached as a cycle begins. -/
namespace Go.Proofs.YtbkjmefhenpmlaaGreatDoor.Den
open Go
set_option linter.unusedVariables false
set_option linter.unusedSimpArgs false
set_option maxRecDepth 100000
theorem og_turn (h : Heap) (a : Int) : og (turnS h) a = og h a := rfl
theorem Rch.more {h : Heap} {us vs : List Val} (hu : ∀ a, okA h a = true → named us a = true → Rch h vs a) {a : Int} (r : Rch h us a) : Rch h vs a := by
 induction r with
 | base ho hn => exact hu _ ho hn
 | step _ hin ho ih => exact .step ih hin ho
theorem Rch.turn {h : Heap} {vs : List Val} {a : Int} : Rch (turnS h) vs a ↔ Rch h vs a := by
 constructor
 ·intro r
  induction r with
  | base ho hn => exact .base ho hn
  | step _ hin ho ih => exact .step ih hin ho
 ·intro r
  induction r with
  | base ho hn => exact .base (h := turnS h) ho hn
  | step _ hin ho ih => exact .step (h := turnS h) ih hin ho
theorem bk_turn {h : Heap} {a : Int} (ho : okA h a = true) : bk (turnS h) a = !bk h a := by
 unfold bk
 rw [og_turn]
 have ho : (og h a).2.1 = true := ho
 rw [ho, Bool.true_and, Bool.true_and]
 show ((og h a).1.2.1 == !h.2.2.1) = _
 cases (og h a).1.2.1 <;> cases h.2.2.1 <;> rfl
end Go.Proofs.YtbkjmefhenpmlaaGreatDoor.Den
/- Pure laws: three colours while marking, whatever mutators do. -/
namespace Go.Proofs.YtbkjmefhenpmlaaGreatDoor.Den
open Go
set_option linter.unusedVariables false
set_option linter.unusedSimpArgs false
set_option maxRecDepth 100000
theorem fil_ap {h : Heap} (q : HP h) (F : FilP h) : apB h = true := by
 unfold apB
 rw [List.all_eq_true]
 intro a ha
 have ho := (mem_lst q.f).1 ha
 obtain ⟨p, i, hp, hs, hi, rfl, hsp⟩ := fnd_blkX q.f (og_ok ho).1
 exact decide_eq_true (by rw [hsp]; exact (F p i hp hs hi).2 ho)
structure Pt (h g : Heap) : Prop where
 ok : ∀ a, okA g a = okA h a
 cn : ∀ a, okA h a = true → cnt g a = cnt h a
 fe_ : ∀ a i, fe g a i = fe h a i
 fv : ∀ a i, fldV g a i = fldV h a i
 up : ∀ a, bk h a = true → bk g a = true
theorem Pt.refl (h : Heap) : Pt h h := ⟨fun _ => rfl, fun _ _ => rfl, fun _ _ => rfl, fun _ _ => rfl, fun _ h => h⟩
theorem Pt.pn {h : Heap} (f : FormP h) (ap : apB h = true) (S : Int → Bool) : Pt h (pn h S) :=
 ⟨fun a => okA_pn f S a, fun a ha => cnt_pnA f S ha, fun a i => fe_pn f S a i, fun a i => fldV_pn f ap S a i, fun a ha => by rw [bk_pn f, show (og h a).2.1 = true from bk_ok ha, ha]; simp⟩
def Shd2 (h : Heap) (m : MarkT) (b : Int) : Prop := bk h b = true ∨ named m.2.2.1 b = true
def GG (h0 : Heap) (vs : List Val) (x : Int) : Prop := Rch h0 vs x ∨ okA h0 x = false
theorem GG.rch {h0 : Heap} {vs : List Val} {x : Int} (g : GG h0 vs x) (ho : okA h0 x = true) : Rch h0 vs x := by
 rcases g with h | h
 ·exact h
 ·rw [ho] at h; cases h
theorem GG.of {h0 : Heap} {vs : List Val} {x : Int} (h : okA h0 x = true → Rch h0 vs x) : GG h0 vs x := by
 cases e : okA h0 x with
 | true => exact .inl (h e)
 | false => exact .inr e
structure MK (h0 : Heap) (vs : List Val) (h : Heap) (m : MarkT) (ms : List MutT) : Prop where
 f0 : FormP h0
 ok : ∀ a, okA h0 a = true → okA h a = true ∧ cnt h a = cnt h0 a
 nw : ∀ a, okA h a = true → okA h0 a = false → bk h a = true
 t : ∀ a i b, Tgt h0 a i b → bk h a = true → Shd2 h m b ∨ cov m a i
 r : ∀ a, okA h0 a = true → named vs a = true → Shd2 h m a
 fl : ∀ a i b, Tgt h0 a i b → fldV h a i = fldV h0 a i ∨ Shd2 h m b
 pd : ∀ x : MutT, x ∈ ms → x.2.1 = 4 → ∀ b, Tgt h0 x.2.2.2.1 x.2.2.1.2.2.1 b → Shd2 h m b
 b : ∀ a, bk h a = true → GG h0 vs a
 rr : ∀ a, okA h0 a = true → named m.2.2.1 a = true → Rch h0 vs a
 ii : ∀ a, okA h0 a = true → itm m a → Rch h0 vs a
 oo : m.2.2.2.1 ≠ -1 → GG h0 vs m.2.2.2.1
 hv : ∀ v : Val, v ∈ heldL ms → v.1 = 2 → okA h v.2.1 = true ∧ GG h0 vs v.2.1
 cl : ∀ a i, fe h a i = 0 → (fldV h a i).1 = 2 → okA h (fldV h a i).2.1 = true
 gc : ∀ a i, GG h0 vs a → fe h a i = 0 → (fldV h a i).1 = 2 → GG h0 vs (fldV h a i).2.1
theorem MK.step {h0 : Heap} {vs : List Val} {h g : Heap} {m m' : MarkT} {ms : List MutT} (K : MK h0 vs h m ms) (P : Pt h g)
  (sh : ∀ b, okA h0 b = true → Shd2 h m b → Shd2 g m' b)
  (t : ∀ a i b, Tgt h0 a i b → bk g a = true → Shd2 g m' b ∨ cov m' a i)
  (b : ∀ a, bk g a = true → GG h0 vs a)
  (rr : ∀ a, okA h0 a = true → named m'.2.2.1 a = true → Rch h0 vs a)
  (ii : ∀ a, okA h0 a = true → itm m' a → Rch h0 vs a)
  (oo : m'.2.2.2.1 ≠ -1 → GG h0 vs m'.2.2.2.1) : MK h0 vs g m' ms := by
 refine ⟨K.f0, fun a ha => ?_, fun a ha h0a => P.up a (K.nw a (by rw [← P.ok]; exact ha) h0a), t, fun a ha hn => sh a ha (K.r a ha hn), fun a i x T => ?_, fun x hx hs y T => sh y T.ok (K.pd x hx hs y T), b, rr, ii, oo, fun v hv hk => ?_, fun a i he hk => ?_, fun a i hg he hk => ?_⟩
 ·obtain ⟨k1, k2⟩ := K.ok a ha
  exact ⟨by rw [P.ok]; exact k1, by rw [P.cn a k1]; exact k2⟩
 ·rw [P.fv]
  exact (K.fl a i x T).imp id (sh x T.ok)
 ·rw [P.ok]
  exact K.hv v hv hk
 ·rw [P.fe_] at he
  rw [P.fv] at hk ⊢
  rw [P.ok]
  exact K.cl a i he hk
 ·rw [P.fe_] at he
  rw [P.fv] at hk ⊢
  exact K.gc a i hg he hk
theorem cov_hand2 {h : Heap} {g : Grey} {bs : List Grey} {rs : List Val} {c : Int} {v : Bool} {a x i : Int} (ho : okA h x = true) (i0 : 0 ≤ i) (i1 : i < cnt h x) (hc : cov (g, bs, rs, -1, 0, c, v, ()) x i ∨ x = a) : cov (hand h (g, bs, rs, -1, 0, c, v, ()) a) x i := by
 have hx : 0 ≤ x := (fndB_rng (og_ok ho).1).1
 have n1 : ¬ x = -1 := by omega
 rcases hand_cases h g bs rs c v a with ⟨h1, h2, e'⟩ | ⟨h1, e'⟩
 ·rw [e']
  rcases hc with (hc | ⟨hc, _⟩ | hc) | rfl
  ·exact .inl hc
  ·exact absurd hc.symm n1
  ·exact .inr (.inr hc)
  ·exact .inr (.inl ⟨rfl, i0⟩)
 ·rw [e']
  rcases hc with hc | rfl
  ·exact hc
  ·exact absurd ⟨ho, by omega⟩ h1
theorem one_iff {v : Val} {a : Int} : one v a = true ↔ v.1 = 2 ∧ v.2.1 = a := by
 unfold one
 rw [Bool.and_eq_true, beq_iff_eq, beq_iff_eq]
theorem hand_same (h : Heap) (g : Grey) (bs : List Grey) (rs : List Val) (c : Int) (v : Bool) (a : Int) :
  (∀ x, itm (hand h (g, bs, rs, -1, 0, c, v, ()) a) x ↔ itm (g, bs, rs, -1, 0, c, v, ()) x) ∧ (hand h (g, bs, rs, -1, 0, c, v, ()) a).2.2.1 = rs ∧ ((hand h (g, bs, rs, -1, 0, c, v, ()) a).2.2.2.1 ≠ -1 → (hand h (g, bs, rs, -1, 0, c, v, ()) a).2.2.2.1 = a) := by
 rcases hand_cases h g bs rs c v a with ⟨_, _, e'⟩ | ⟨_, e'⟩
 ·rw [e']
  exact ⟨fun _ => Iff.rfl, rfl, fun _ => rfl⟩
 ·rw [e']
  exact ⟨fun _ => Iff.rfl, rfl, fun hh => absurd rfl hh⟩
theorem mkHand {h0 : Heap} {vs : List Val} {h : Heap} {m : MarkT} {ms : List MutT} (K : MK h0 vs h m ms) {g : Grey} {bs : List Grey} {rs : List Val} {c : Int} {v : Bool} {a : Int}
  (er : m.2.2.1 = rs) (hi : ∀ x, itm (g, bs, rs, -1, 0, c, v, ()) x → itm m x) (ha : okA h0 a = true → Rch h0 vs a)
  (ht : ∀ x j b, Tgt h0 x j b → bk h x = true → cov m x j → cov (g, bs, rs, -1, 0, c, v, ()) x j ∨ x = a) : MK h0 vs h (hand h (g, bs, rs, -1, 0, c, v, ()) a) ms := by
 obtain ⟨s1, s2, s3⟩ := hand_same h g bs rs c v a
 have sh : ∀ b, Shd2 h m b → Shd2 h (hand h (g, bs, rs, -1, 0, c, v, ()) a) b := fun b hb => by
  unfold Shd2 at hb ⊢
  rw [s2, ← er]
  exact hb
 refine K.step (Pt.refl h) (fun b _ hb => sh b hb) (fun x j b T hx => ?_) K.b (fun x hx hn => K.rr x hx (by rw [er, ← s2]; exact hn)) (fun x hx hh => K.ii x hx (hi x ((s1 x).1 hh))) fun hh => ?_
 ·rcases K.t x j b T hx with h1 | h1
  ·exact .inl (sh b h1)
  ·obtain ⟨ho, i0, i1⟩ := fe_ok T.fe
   obtain ⟨k1, k2⟩ := K.ok x ho
   exact .inr (cov_hand2 k1 i0 (by rw [k2]; exact i1) (ht x j b T hx h1))
 ·rw [s3 hh]
  exact GG.of ha
theorem MK.stp {h0 : Heap} {vs : List Val} {h h' : Heap} {m m' : MarkT} {ms : List MutT} (K : MK h0 vs h m ms) (q : HP h) (F : FilP h) (s : Stp h m h' m') : MK h0 vs h' m' ms := by
 have f := q.f
 have ap := fil_ap q F
 cases s with
 | @fld g g' bs rs o i c v w h' ho he s =>
  have sf := s.facts f
  obtain ⟨S, eS⟩ := s.paint
  have P : Pt h h' := by rw [eS]; exact Pt.pn f ap S
  have tg : (fldV h o i).1 = 2 → GG h0 vs (fldV h o i).2.1 := K.gc o i (K.oo ho) he
  have sh : ∀ b, Shd2 h (g, bs, rs, o, i, c, v, ()) b → Shd2 h' (g', bs, rs, (if cnt h o ≤ i + 1 then -1 else o), (if cnt h o ≤ i + 1 then 0 else i + 1), c, v || w, ()) b := fun b hb => hb.imp (sf.up b) id
  refine K.step P (fun b _ hb => sh b hb) (fun a j b t ha => ?_) (fun a ha => ?_) K.rr (fun a hoa hi => ?_) fun hh => ?_
  ·rcases sf.new a ha with h1 | ⟨h1, h2, h3, h4 | h4⟩
   ·rcases K.t a j b t h1 with h2 | (h2 | h2) | ⟨h2, h3⟩ | h2 | h2
    ·exact .inl (sh b h2)
    ·exact .inr (.inl (.inl (sf.iu a h2)))
    ·exact .inr (.inl (.inr h2))
    ·have h2 : o = a := h2
     have h3 : i ≤ j := h3
     subst h2
     obtain ⟨q1, q2, q3⟩ := fe_ok t.fe
     have hc := (K.ok o q1).2
     by_cases hij : j = i
     ·subst hij
      left
      rcases K.fl o j b t with e | e
      ·left
       have := sf.now
       rw [e, t.k, t.n] at this
       exact this rfl (K.ok b t.ok).1
      ·exact sh b e
     ·right; right; left
      show (if cnt h o ≤ i + 1 then -1 else o) = o ∧ (if cnt h o ≤ i + 1 then 0 else i + 1) ≤ j
      have hn : ¬ cnt h o ≤ i + 1 := by rw [hc]; omega
      rw [if_neg hn, if_neg hn]
      exact ⟨rfl, by omega⟩
    ·have h2 : v = true := h2
     right; right; right; left
     show (v || w) = true
     rw [h2]; rfl
    ·exact .inr (.inr (.inr (.inr h2)))
   ·exact .inr (.inl (.inl h4))
   ·right; right; right; left
    show (v || w) = true
    rw [h4, Bool.or_true]
  ·rcases sf.new a ha with h1 | ⟨h1, h2, -⟩
   ·exact K.b a h1
   ·rw [← h2]
    exact tg h1
  ·rcases hi with hi | hi
   ·rcases sf.inw a hi with h1 | ⟨h1, h2, -⟩
    ·exact K.ii a hoa (.inl h1)
    ·exact GG.rch (by rw [← h2]; exact tg h1) hoa
   ·exact K.ii a hoa (.inr hi)
  ·have hh : (if cnt h o ≤ i + 1 then -1 else o) ≠ -1 := hh
   show GG h0 vs (if cnt h o ≤ i + 1 then -1 else o)
   split at hh
   ·exact absurd rfl hh
   ·rename_i hn
    rw [if_neg hn]
    exact K.oo ho
 | @pop r l a bs rs c v =>
  refine mkHand K rfl (fun x hx => ?_) (fun ha => K.ii a ha (.inl (List.mem_append_right _ (List.mem_singleton.2 rfl)))) (fun x j b T hx hc => ?_)
  ·rcases hx with hx | hx
   ·exact .inl (List.mem_append_left _ hx)
   ·exact .inr hx
  ·rcases hc with (hc | hc) | hc
   ·rcases List.mem_append.1 hc with hc | hc
    ·exact .inl (.inl (.inl hc))
    ·exact .inr (List.mem_singleton.1 hc)
   ·exact .inl (.inl (.inr hc))
   ·exact .inl (.inr hc)
 | @row g xs ys r l a rs c v =>
  refine mkHand K rfl (fun x hx => ?_) (fun ha => K.ii a ha (.inr ⟨_, mem_here, List.mem_append_right _ (List.mem_singleton.2 rfl)⟩)) (fun x j b T hx hc => ?_)
  ·rcases hx with hx | ⟨y, hy, hx⟩
   ·exact .inl hx
   ·rcases mem_mid (g := (r, l ++ [a], ())) hy with rfl | hy
    ·exact .inr ⟨_, mem_here, List.mem_append_left _ hx⟩
    ·exact .inr ⟨y, hy, hx⟩
  ·rcases hc with (hc | ⟨y, hy, hc⟩) | hc
   ·exact .inl (.inl (.inl hc))
   ·rcases mem_mid (g := (r, l, ())) hy with rfl | hy
    ·rcases List.mem_append.1 hc with hc | hc
     ·exact .inl (.inl (.inr ⟨_, mem_here, hc⟩))
     ·exact .inr (List.mem_singleton.1 hc)
    ·exact .inl (.inl (.inr ⟨y, hy, hc⟩))
   ·exact .inl (.inr hc)
 | @root g g' bs x rs c v w h' s =>
  have sf := s.facts f
  obtain ⟨S, eS⟩ := s.paint
  have P : Pt h h' := by rw [eS]; exact Pt.pn f ap S
  have hroot : ∀ a, okA h a = true → x.1 = 2 → x.2.1 = a → GG h0 vs a := fun a ha h1 h2 => GG.of fun h0a => K.rr a h0a (by show (one x a || named rs a) = true; rw [one_iff.2 ⟨h1, h2⟩]; rfl)
  have sh : ∀ b, okA h0 b = true → Shd2 h (g, bs, x :: rs, -1, 0, c, v, ()) b → Shd2 h' (g', bs, rs, -1, 0, c, v || w, ()) b := fun b h0b hb => by
   rcases hb with hb | hb
   ·exact .inl (sf.up b hb)
   ·have hb : (one x b || named rs b) = true := hb
    rw [Bool.or_eq_true] at hb
    rcases hb with hb | hb
    ·obtain ⟨h1, h2⟩ := one_iff.1 hb
     left
     have := sf.now h1
     rw [h2] at this
     exact this (K.ok b h0b).1
    ·exact .inr hb
  refine K.step P sh (fun a j b t ha => ?_) (fun a ha => ?_) (fun a h0a hn => K.rr a h0a ?_) (fun a hoa hi => ?_) fun hh => absurd rfl hh
  ·rcases sf.new a ha with h1 | ⟨h1, h2, h3, h4 | h4⟩
   ·rcases K.t a j b t h1 with h2 | (h2 | h2) | h2 | h2 | h2
    ·exact .inl (sh b t.ok h2)
    ·exact .inr (.inl (.inl (sf.iu a h2)))
    ·exact .inr (.inl (.inr h2))
    ·exact .inr (.inr (.inl h2))
    ·have h2 : v = true := h2
     right; right; right; left
     show (v || w) = true
     rw [h2]; rfl
    ·exact .inr (.inr (.inr (.inr h2)))
   ·exact .inr (.inl (.inl h4))
   ·right; right; right; left
    show (v || w) = true
    rw [h4, Bool.or_true]
  ·rcases sf.new a ha with h1 | ⟨h1, h2, h3, -⟩
   ·exact K.b a h1
   ·exact hroot a h3 h1 h2
  ·show (one x a || named rs a) = true
   rw [show named rs a = true from hn, Bool.or_true]
  ·rcases hi with hi | hi
   ·rcases sf.inw a hi with h1 | ⟨h1, h2, h3⟩
    ·exact K.ii a hoa (.inl h1)
    ·exact (hroot a h3 h1 h2).rch hoa
   ·exact K.ii a hoa (.inr hi)
 | @cur g bs rs c v a hc ha hb hx =>
  refine mkHand K rfl (fun x hx => hx) (fun h0a => (K.b a hb).rch h0a) (fun x j b T hxb hcv => ?_)
  rcases hcv with h1 | ⟨h1, h2⟩ | h1 | ⟨h1, h2⟩
  ·exact .inl (.inl h1)
  ·exact .inl (.inr (.inl ⟨h1, h2⟩))
  ·exact .inl (.inr (.inr (.inl h1)))
  ·have := hx x h2 hxb
   by_cases ex : x = a
   ·exact .inr ex
   ·have h0 := (fndB_rng (og_ok (bk_ok hb)).1).1
    refine .inl (.inr (.inr (.inr ⟨?_, ?_⟩)))
    ·show a + 1 ≠ -1
     omega
    ·show a + 1 ≤ x
     omega
 | @noc g bs rs c v hc hx =>
  refine K.step (Pt.refl h) (fun b _ hb => hb) (fun x j b t hxb => ?_) K.b K.rr K.ii K.oo
  rcases K.t x j b t hxb with h1 | hcv
  ·exact .inl h1
  ·right
   rcases hcv with h1 | h1 | h1 | ⟨h1, h2⟩
   ·exact .inl h1
   ·exact .inr (.inl h1)
   ·exact .inr (.inr (.inl h1))
   ·rw [hx x h2] at hxb; cases hxb
 | @ovr g bs rs =>
  refine K.step (Pt.refl h) (fun b _ hb => hb) (fun x j b t hxb => .inr (.inr (.inr (.inr ⟨?_, ?_⟩)))) K.b K.rr K.ii K.oo
  ·show (0 : Int) ≠ -1
   omega
  ·exact (fndB_rng (og_ok (fe_ok t.fe).1).1).1
theorem MK.dn {h0 : Heap} {vs : List Val} {h : Heap} {m : MarkT} {ms : List MutT} (K : MK h0 vs h m ms) (d : Dn m) (a : Int) : bk h a = true ↔ okA h a = true ∧ GG h0 vs a := by
 have shd : ∀ b, Shd2 h m b → bk h b = true := fun b hb => by
  rcases hb with h1 | h1
  ·exact h1
  ·rw [d.r] at h1; cases h1
 have key : ∀ a, Rch h0 vs a → bk h a = true := by
  intro a r
  induction r with
  | base ho hn => exact shd _ (K.r _ ho hn)
  | @step a b ra hb hob ih =>
   obtain ⟨i, t⟩ := refs_tgt K.f0 ra.ok hb hob
   have h0 := (fndB_rng (og_ok ra.ok).1).1
   rcases K.t a i b t ih with h1 | (h1 | ⟨y, hy, h1⟩) | ⟨h1, h2⟩ | h1 | ⟨h1, _⟩
   ·exact shd _ h1
   ·rw [d.g] at h1; cases h1
   ·rw [d.b y hy] at h1; cases h1
   ·rw [d.o] at h1; omega
   ·rw [d.v] at h1; cases h1
   ·exact absurd d.c h1
 constructor
 ·intro hb
  exact ⟨bk_ok hb, K.b a hb⟩
 ·rintro ⟨ho, hg | hn⟩
  ·exact key a hg
  ·exact K.nw a ho hn
end Go.Proofs.YtbkjmefhenpmlaaGreatDoor.Den
/- Pure laws: three colours, whatever turns come. -/
namespace Go.Proofs.YtbkjmefhenpmlaaGreatDoor.Den
open Go
set_option linter.unusedVariables false
set_option linter.unusedSimpArgs false
set_option maxRecDepth 100000
structure KK (h : Heap) (ms : List MutT) : Prop where
 bc : ∀ a i, bk h a = true → fe h a i = 0 → (fldV h a i).1 = 2 → bk h (fldV h a i).2.1 = true
 hb : ∀ v : Val, v ∈ heldL ms → v.1 = 2 → bk h v.2.1 = true
 cb : ∀ a, okA h a = true → (spanOf h a).1 = 1 → bk h a = true
theorem KK.ms {h : Heap} {ms ms' : List MutT} (K : KK h ms) (hv : ∀ v : Val, v ∈ heldL ms' → v.1 = 2 → bk h v.2.1 = true) : KK h ms' := ⟨K.bc, hv, K.cb⟩
theorem MK.ms {h0 : Heap} {vs : List Val} {h : Heap} {m : MarkT} {ms ms' : List MutT} (K : MK h0 vs h m ms) (hv : ∀ v : Val, v ∈ heldL ms' → v.1 = 2 → okA h v.2.1 = true ∧ GG h0 vs v.2.1)
  (pd : ∀ x : MutT, x ∈ ms' → x.2.1 = 4 → ∀ b, Tgt h0 x.2.2.2.1 x.2.2.1.2.2.1 b → Shd2 h m b) : MK h0 vs h m ms' :=
 ⟨K.f0, K.ok, K.nw, K.t, K.r, K.fl, pd, K.b, K.rr, K.ii, K.oo, hv, K.cl, K.gc⟩
structure Kp (h g : Heap) : Prop where
 og : ∀ a, okA h a = true → og g a = og h a
 nb : ∀ a, okA g a = true → okA h a = false → bk g a = true ∧ ∀ i, fe g a i = 0 → (fldV g a i).1 ≠ 2
 fv : ∀ a i, okA h a = true → fldV g a i = fldV h a i
 c : g.2.2 = h.2.2
 st : ∀ a, okA h a = true → (spanOf g a).1 = (spanOf h a).1
theorem Kp.ok {h g : Heap} (P : Kp h g) {a : Int} (ha : okA h a = true) : okA g a = true := by rw [ok_congr (P.og a ha)]; exact ha
theorem Kp.bk {h g : Heap} (P : Kp h g) {a : Int} (ha : okA h a = true) : bk g a = bk h a := bk_congr (P.og a ha) P.c
theorem Kp.up {h g : Heap} (P : Kp h g) {a : Int} (hb : Go.Proofs.YtbkjmefhenpmlaaGreatDoor.Den.bk h a = true) : Go.Proofs.YtbkjmefhenpmlaaGreatDoor.Den.bk g a = true := by rw [P.bk (bk_ok hb)]; exact hb
theorem Kp.fe_ {h g : Heap} (P : Kp h g) {a : Int} (ha : okA h a = true) (i : Int) : fe g a i = fe h a i := fe_congr (P.og a ha) i
theorem KK.st {h : Heap} {ms : List MutT} (K : KK h ms) (q : HP h) (F : FilP h) {a i : Int} {v : Val} (hr : v.2.1 ≤ 9223372036854775807) (hv : v.1 = 2 → bk h v.2.1 = true) : KK (setO h a i v) ms := by
 unfold setO
 split
 ·rename_i c
  have ho := fun b => og_st q F (v := v) c.1 b
  have hb : ∀ b, bk (stH h a i v) b = bk h b := fun b => bk_congr (ho b) rfl
  refine ⟨fun x j hx he hk => ?_, fun w hw hk => by rw [hb]; exact K.hb w hw hk, fun x hx hs => by rw [hb]; exact K.cb x (by rw [← ok_congr (ho x)]; exact hx) hs⟩
  rw [hb] at hx ⊢
  rw [fe_congr (ho x)] at he
  rw [fld_st q F c.1 c.2 hr] at hk ⊢
  split
  ·rename_i e
   rw [if_pos e] at hk
   exact hv hk
  ·rename_i e
   rw [if_neg e] at hk
   exact K.bc x j hx he hk
 ·exact K
theorem MK.st {h0 : Heap} {vs : List Val} {h : Heap} {m : MarkT} {ms : List MutT} (K : MK h0 vs h m ms) (q : HP h) (F : FilP h) {a i : Int} {v : Val} (hr : v.2.1 ≤ 9223372036854775807) (hv : v.1 = 2 → okA h v.2.1 = true ∧ GG h0 vs v.2.1)
  (hp : ∀ b, Tgt h0 a i b → Shd2 h m b) : MK h0 vs (setO h a i v) m ms := by
 unfold setO
 split
 ·rename_i c
  have ho := fun b => og_st q F (v := v) c.1 b
  have hb : ∀ b, bk (stH h a i v) b = bk h b := fun b => bk_congr (ho b) rfl
  have hk' : ∀ b, okA (stH h a i v) b = okA h b := fun b => ok_congr (ho b)
  have sh : ∀ b, Shd2 h m b → Shd2 (stH h a i v) m b := fun b hh => hh.imp (fun h => by rw [hb]; exact h) id
  refine ⟨K.f0, fun x hx => by rw [hk', cnt_congr (ho x)]; exact K.ok x hx, fun x hx hn => by rw [hb]; exact K.nw x (by rw [← hk']; exact hx) hn, fun x j b T hx => by rw [hb] at hx; exact (K.t x j b T hx).imp (sh b) id, fun x hx hn => sh x (K.r x hx hn), fun x j b T => ?_, fun x hx hs b T => sh b (K.pd x hx hs b T), fun x hx => by rw [hb] at hx; exact K.b x hx, K.rr, K.ii, K.oo, fun w hw hk => by rw [hk']; exact K.hv w hw hk, fun x j he hk => ?_, fun x j hg he hk => ?_⟩
  ·rw [fld_st q F c.1 c.2 hr]
   split
   ·rename_i e
    obtain ⟨rfl, rfl⟩ := e
    exact .inr (sh b (hp b T))
   ·exact (K.fl x j b T).imp id (sh b)
  ·rw [fe_congr (ho x)] at he
   rw [fld_st q F c.1 c.2 hr] at hk ⊢
   rw [hk']
   split
   ·rename_i e
    rw [if_pos e] at hk
    exact (hv hk).1
   ·rename_i e
    rw [if_neg e] at hk
    exact K.cl x j he hk
  ·rw [fe_congr (ho x)] at he
   rw [fld_st q F c.1 c.2 hr] at hk ⊢
   split
   ·rename_i e
    rw [if_pos e] at hk
    exact (hv hk).2
   ·rename_i e
    rw [if_neg e] at hk
    exact K.gc x j hg he hk
 ·exact K
def Fv (h g : Heap) : Prop := ∀ a, okA g a = true → og g a = og h a ∧ ∀ i, fldV g a i = fldV h a i
theorem Fv.refl (h : Heap) : Fv h h := fun _ _ => ⟨rfl, fun _ => rfl⟩
theorem Fv.trans {h g k : Heap} (P : Fv h g) (Q : Fv g k) : Fv h k := fun a ha => by
 obtain ⟨q1, q2⟩ := Q a ha
 obtain ⟨p1, p2⟩ := P a (by rw [← ok_congr q1]; exact ha)
 exact ⟨by rw [q1, p1], fun i => by rw [q2, p2]⟩
theorem Fv.freed {g : Heap} (q : HP g) (F : FilP g) {p i w : Nat} (B : BlkF g p i w) : Fv g (freed g (blA g p i)) := fun a ha => by
 have e := freed_og q B a
 have hne : ¬ a = (blA g p i : Nat) := fun hh => by
  rw [if_pos hh] at e
  unfold okA at ha
  rw [e] at ha
  cases ha
 rw [if_neg hne] at e
 refine ⟨e, fun k => ?_⟩
 have hoa : okA g a = true := by rw [← ok_congr e]; exact ha
 have hl := q.f.len
 have hb := B.a_
 have hin := B.in_
 have hp := B.hp
 unfold fldV
 rw [fe_congr e]
 by_cases e0 : fe g a k = 0
 ·rw [if_pos e0, if_pos e0]
  obtain ⟨-, k0, k1⟩ := fe_okU e0
  obtain ⟨p', i', w', B', rfl, c0, c1⟩ := fil_obj q F hoa
  unfold cnt at c1
  have hj : ¬ (blA g p i ≤ (((blA g p' i' : Nat) : Int) + 1 + k).toNat ∧ (((blA g p' i' : Nat) : Int) + 1 + k).toNat < blA g p i + w) := fun c => by
   obtain ⟨rfl, rfl, -⟩ := blk_same B B' (j := (((blA g p' i' : Nat) : Int) + 1 + k).toNat - blA g p i) (j' := (1 + k).toNat) (by omega) (by omega) (by omega)
   exact hne rfl
  have hw : (Go.Proofs.YtbkjmefhenpmlaaGreatDoor.Den.freed g (blA g p i : Nat)).1.getD (((blA g p' i' : Nat) : Int) + 1 + k).toNat 0 = g.1.getD (((blA g p' i' : Nat) : Int) + 1 + k).toNat 0 := by
   rw [freed_blk B]
   show (zer g.1 (blA g p i) w).getD _ 0 = _
   rw [zer_getD (by omega), if_neg hj]
  rw [hw]
 ·rw [if_neg e0, if_neg e0]
theorem dcnt_no {h : Heap} (hz : dcnt h = 0) {s : Span} (hs : s ∈ h.2.1) : s.1 ≠ 2 := by
 unfold dcnt at hz
 rw [List.countP_eq_zero] at hz
 intro h2
 exact hz s hs (decide_eq_true h2)
theorem all_black {h : Heap} {ms : List MutT} (K : KK h ms) (q : HP h) (hz : dcnt h = 0) {a : Int} (ha : okA h a = true) : bk h a = true := by
 refine K.cb a ha ?_
 have hd := (of_decide_eq_true (og_ok ha).1).2.2.1
 have hr := fndB_rng (og_ok ha).1
 have hm : spanOf h a ∈ h.2.1 := by
  unfold spanOf
  rw [get_d _ _ _ (by omega)]
  exact List.getElem_mem _
 have := dcnt_no hz hm
 rcases (right_use (q.f.right _ hm) hd).1 with e | e
 ·exact e
 ·exact absurd e this
theorem MK.begin {h : Heap} {ms : List MutT} (K : KK h ms) (q : HP h) (hz : dcnt h = 0) (g b : Int) : MK (turnS h) (heldL ms ++ pendL h ms) (turnS h) (markM g b ms.length (heldL ms ++ pendL h ms)) ms := by
 have wh : ∀ a, bk (turnS h) a = false := fun a => by
  cases ho : okA h a with
  | true => rw [bk_turn ho, all_black K q hz ho]; rfl
  | false =>
   cases hb : bk (turnS h) a with
   | false => rfl
   | true =>
    have : okA h a = true := show okA (turnS h) a = true from bk_ok hb
    rw [ho] at this
    cases this
 have no : ∀ {P : Prop} (a : Int), bk (turnS h) a = true → P := fun a hb => by rw [wh a] at hb; cases hb
 have hcl : ∀ a i, fe h a i = 0 → (fldV h a i).1 = 2 → okA h (fldV h a i).2.1 = true := fun a i he hk => bk_ok (K.bc a i (all_black K q hz (fe_ok he).1) he hk)
 have inm : ∀ {l : List Val} {v : Val} {x : Int}, v ∈ l → v.1 = 2 → v.2.1 = x → named l x = true := fun hv h1 h2 => by
  unfold named
  exact List.any_eq_true.2 ⟨_, hv, one_iff.2 ⟨h1, h2⟩⟩
 refine ⟨q.f.turn, fun a ha => ⟨ha, rfl⟩, fun a ha hn => ?_, fun a i x T hb => no a hb, fun a ha hn => .inr hn, fun a i x T => .inl rfl, fun x hx hs y T => .inr ?_, fun a hb => no a hb, fun a ha hn => Rch.base ha hn, fun a ha hi => ?_, fun hh => absurd rfl hh, fun v hv hk => ?_, fun a i he hk => hcl a i he hk, fun a i hg he hk => ?_⟩
 ·rw [ha] at hn; cases hn
 ·refine inm (v := fldV h x.2.2.2.1 x.2.2.1.2.2.1) (List.mem_append_right _ ?_) T.k T.n
  unfold pendL
  refine List.mem_flatMap.2 ⟨x, hx, ?_⟩
  unfold pend1
  rw [if_pos hs]
  exact List.mem_singleton.2 rfl
 ·rcases hi with hi | ⟨y, hy, hi⟩
  ·cases hi
  ·have e : y = (b, [], ()) := List.eq_of_mem_replicate hy
   rw [e] at hi
   cases hi
 ·have ho := bk_ok (K.hb v hv hk)
  exact ⟨ho, .inl (Rch.base ho (inm (List.mem_append_left _ hv) hk rfl))⟩
 ·rcases hg with hg | hn
  ·have ho := hcl a i he hk
   exact .inl (Rch.step hg (tgt_refs (q.f.turn) ⟨he, hk, rfl, ho⟩) ho)
  ·have : okA h a = true := (fe_ok he).1
   have hn : okA h a = false := hn
   rw [this] at hn; cases hn
theorem MK.ends {h0 : Heap} {vs : List Val} {h : Heap} {m : MarkT} {ms : List MutT} (K : MK h0 vs h m ms) (q : HP h) (d : Dn m) : KK (begS h) ms := by
 have ho : ∀ b, og (begS h) b = og h b := og_beg h
 have hb : ∀ b, bk (begS h) b = bk h b := fun b => bk_congr (ho b) rfl
 have hf : ∀ a i, fldV (begS h) a i = fldV h a i := fun a i => by unfold fldV fe; rw [ho]; rfl
 refine ⟨fun a i hx he hk => ?_, fun v hv hk => ?_, fun a ha hs => ?_⟩
 ·rw [hb] at hx ⊢
  rw [fe_congr (ho a)] at he
  rw [hf] at hk ⊢
  exact (K.dn d _).2 ⟨K.cl a i he hk, K.gc a i (K.b a hx) he hk⟩
 ·rw [hb]
  exact (K.dn d _).2 (K.hv v hv hk)
 ·exfalso
  unfold spanOf at hs
  rw [beg_at] at hs
  unfold dirtS at hs
  split at hs
  ·exact absurd hs (by show ¬ (2 : Int) = 1; decide)
  ·rename_i hn
   exact hn hs
structure GX (h0 : Heap) (vs : List Val) (w : WrldT) : Prop where
 T : TW w
 kk : w.2.2.2.2.1 ≠ 1 → KK w.2.1 w.2.2.1
 d0 : w.2.2.2.2.1 ≠ 2 → dcnt w.2.1 = 0
 mk_ : w.2.2.2.2.1 = 1 → MK h0 vs w.2.1 w.2.2.2.1 w.2.2.1
def HQ (h0 : Heap) (vs : List Val) (w : WrldT) (v : Val) : Prop := v.1 = 2 → (w.2.2.2.2.1 ≠ 1 → bk w.2.1 v.2.1 = true) ∧ (w.2.2.2.2.1 = 1 → okA w.2.1 v.2.1 = true ∧ GG h0 vs v.2.1)
theorem GX.held {h0 : Heap} {vs : List Val} {w : WrldT} (G : GX h0 vs w) {v : Val} (hv : v ∈ heldL w.2.2.1) : HQ h0 vs w v := fun hk => ⟨fun e => (G.kk e).hb v hv hk, fun e => (G.mk_ e).hv v hv hk⟩
theorem GX.fld {h0 : Heap} {vs : List Val} {w : WrldT} (G : GX h0 vs w) {v : Val} (hv : v ∈ heldL w.2.2.1) (h2 : v.1 = 2) (i : Int) : HQ h0 vs w (fldV w.2.1 v.2.1 i) := fun hk => by
 have he : fe w.2.1 v.2.1 i = 0 := by
  by_cases e : fe w.2.1 v.2.1 i = 0
  ·exact e
  ·unfold fldV at hk
   rw [if_neg e] at hk
   exact absurd hk (by show ¬ (0 : Int) = 2; decide)
 refine ⟨fun e => (G.kk e).bc _ i ((G.kk e).hb v hv h2) he hk, fun e => ?_⟩
 obtain ⟨k1, k2⟩ := (G.mk_ e).hv v hv h2
 exact ⟨(G.mk_ e).cl _ i he hk, (G.mk_ e).gc _ i k2 he hk⟩
theorem GX.put {h0 : Heap} {vs : List Val} {w : WrldT} (G : GX h0 vs w) {k : Nat} {m : MutT} (T : TW (putM w k m)) (h1 : ∀ v : Val, v ∈ held1 m → HQ h0 vs w v)
  (h2 : w.2.2.2.2.1 = 1 → m.2.1 = 4 → ∀ b, Tgt h0 m.2.2.2.1 m.2.2.1.2.2.1 b → Shd2 w.2.1 w.2.2.2.1 b) : GX h0 vs (putM w k m) := by
 have hh : ∀ v : Val, v ∈ heldL (w.2.2.1.set k m) → HQ h0 vs w v := fun v hv => by
  unfold heldL at hv
  obtain ⟨x, hx, h⟩ := List.mem_flatMap.1 hv
  rcases mem_setL hx with rfl | h3
  ·exact h1 v h
  ·exact G.held (List.mem_flatMap.2 ⟨x, h3, h⟩)
 refine ⟨T, fun e => (G.kk e).ms fun v hv hk => (hh v hv hk).1 e, G.d0, fun e => (G.mk_ e).ms (fun v hv hk => (hh v hv hk).2 e) fun x hx hs b Tg => ?_⟩
 rcases mem_setL hx with rfl | h3
 ·exact h2 e hs b Tg
 ·exact (G.mk_ e).pd x h3 hs b Tg
theorem GX.done {h0 : Heap} {vs : List Val} {w : WrldT} (G : GX h0 vs w) {k : Nat} {st : List Val} {e : Int} {v : Val} (T : TW (doneW w k st e v).1) (h : ∀ v : Val, v ∈ st → HQ h0 vs w v) : GX h0 vs (doneW w k st e v).1 := by
 refine G.put T (fun x hx => ?_) fun _ hs => absurd (show (0 : Int) = 4 from hs) (by decide)
 have hx : x ∈ st ++ [] := hx
 rw [List.append_nil] at hx
 exact h x hx
theorem GX.stk {h0 : Heap} {vs : List Val} {w : WrldT} (G : GX h0 vs w) {k : Nat} (hk : k < w.2.2.1.length) {v : Val} (hv : v ∈ (curM w k).1) : HQ h0 vs w v := G.held (mem_held (curM_mem hk) hv)
theorem HQ.zv {h0 : Heap} {vs : List Val} {w : WrldT} : HQ h0 vs w zv := fun hk => absurd (show (0 : Int) = 2 from hk) (by decide)
theorem GX.push {h0 : Heap} {vs : List Val} {w : WrldT} (G : GX h0 vs w) {k : Nat} (hk : k < w.2.2.1.length) {v : Val} (T : TW (pushW w k v).1) (h : HQ h0 vs w v) : GX h0 vs (pushW w k v).1 := by
 refine G.done T fun x hx => ?_
 rcases psh_in hx with hx | rfl
 ·exact G.stk hk hx
 ·exact h
end Go.Proofs.YtbkjmefhenpmlaaGreatDoor.Den
/- Pure laws: no rule is broken, whatever turns come. -/
namespace Go.Proofs.YtbkjmefhenpmlaaGreatDoor.Den
open Go
set_option linter.unusedVariables false
set_option linter.unusedSimpArgs false
set_option maxRecDepth 100000
theorem clr_ofU {h : Heap} {a n : Nat} (hl : a + n ≤ h.1.length) (hz : ∀ i, i < n → h.1.getD (a + i) 0 = 0) : clrB h a n = true := by
 unfold clrB
 rw [List.all_eq_true]
 intro x hx
 obtain ⟨i, hi, rfl⟩ := List.mem_iff_getElem.1 hx
 have hn := clr_len hl
 rw [clr_at hl hi]
 exact decide_eq_true (hz i (by omega))
theorem filled_of {h : Heap} (q : HP h) (F : FilP h) (N : NzP h) : filledB h = true := by
 have hl := q.f.len
 unfold filledB
 rw [Bool.and_eq_true]
 constructor
 ·unfold frsB
  rw [List.all_eq_true]
  intro p hp
  have hp := List.mem_range.1 hp
  by_cases hs : stP h p = 0
  ·rw [decide_eq_true hs, clr_ofU (by omega) fun i hi => page_zero q N hs (by omega) (by omega)]
   rfl
  ·rw [decide_eq_false hs]
   rfl
 ·unfold pgsB
  rw [List.all_eq_true]
  intro p hp
  have hp := List.mem_range.1 hp
  refine pgB_all.2 fun hs i hi => ?_
  obtain ⟨f1, f2⟩ := F p i hp hs hi
  obtain ⟨w, B⟩ := blkF_of q.f hp hs hi
  have ha := B.a_
  have hin := B.in_
  unfold filB
  rw [B.w_]
  cases e : freB h p i with
  | true =>
   rw [if_pos rfl]
   rw [e] at f1
   refine clr_ofU (by omega) fun k hk => ?_
   by_cases hz : h.1.getD (blA h p i + k) 0 = 0
   ·exact hz
   ·obtain ⟨x, hx, l, u⟩ := N _ hz
    obtain ⟨p', i', w', B', rfl, c0, c1⟩ := fil_obj q F hx
    obtain ⟨rfl, rfl, -⟩ := blk_same B B' (j := k) (j' := blA h p i + k - blA h p' i') hk (by omega) (by omega)
    rw [f1] at hx
    cases hx
  | false =>
   rw [if_neg (by simp)]
   rw [e] at f1
   have ho : okA h (blA h p i : Nat) = true := f1
   rw [ho, decide_eq_true (f2 ho)]
   rfl
theorem behind_of {h : Heap} (q : HP h) (F : FilP h) (N : NzP h) : behindB h = true := by
 have hl := q.f.len
 unfold behindB pgsB
 rw [List.all_eq_true]
 intro p hp
 have hp := List.mem_range.1 hp
 refine pgB_all.2 fun hs i hi => ?_
 obtain ⟨f1, f2⟩ := F p i hp hs hi
 obtain ⟨w, B⟩ := blkF_of q.f hp hs hi
 have ha := B.a_
 have hin := B.in_
 unfold behB
 cases e : freB h p i with
 | true => rfl
 | false =>
  rw [e] at f1
  have ho : okA h (blA h p i : Nat) = true := f1
  rw [B.w_, Bool.false_or]
  obtain ⟨p1, i1, w1, B1, e1, c0, c1⟩ := fil_obj q F ho
  have hw0 : 0 < w := by rcases B.wb with rfl | rfl | rfl | rfl <;> decide
  have hw1 : 0 < w1 := by rcases B1.wb with rfl | rfl | rfl | rfl <;> decide
  obtain ⟨rfl, rfl, -⟩ := blk_same B B1 (j := 0) (j' := 0) hw0 hw1 (by omega)
  have ew : w1 = w := by have := B.w_; have := B1.w_; omega
  subst ew
  refine clr_ofU (by omega) fun k hk => ?_
  by_cases hz : h.1.getD (blA h p i + 1 + (cnt h (blA h p i : Nat)).toNat + k) 0 = 0
  ·exact hz
  ·obtain ⟨x, hx, l, u⟩ := N _ hz
   obtain ⟨p', i', w', B', rfl, d0, d1⟩ := fil_obj q F hx
   obtain ⟨rfl, rfl, -⟩ := blk_same B B' (j := 1 + (cnt h (blA h p i : Nat)).toNat + k) (j' := blA h p i + 1 + (cnt h (blA h p i : Nat)).toNat + k - blA h p' i') (by omega) (by omega) (by omega)
   omega
theorem GX.refs {h0 : Heap} {vs : List Val} {w : WrldT} (G : GX h0 vs w) {a : Int} (ha : (spanOf w.2.1 a).1 = 1 ∨ bk w.2.1 a = true) {i : Int} (he : fe w.2.1 a i = 0) (hk : (fldV w.2.1 a i).1 = 2) : okA w.2.1 (fldV w.2.1 a i).2.1 = true := by
 by_cases e : w.2.2.2.2.1 = 1
 ·exact (G.mk_ e).cl a i he hk
 ·have K := G.kk e
  have hb : bk w.2.1 a = true := by
   rcases ha with h | h
   ·exact K.cb a (fe_ok he).1 h
   ·exact h
  exact bk_ok (K.bc a i hb he hk)
theorem refs_fld {h : Heap} (f : FormP h) {a b : Int} (ho : okA h a = true) (hb : b ∈ refsO h a) : ∃ i, fe h a i = 0 ∧ (fldV h a i).1 = 2 ∧ (fldV h a i).2.1 = b := by
 obtain ⟨i, h1, h2, h3⟩ := mem_rfN.1 hb
 have he : fe h a (i : Int) = 0 := by
  unfold fe
  rw [if_pos (show (og h a).2.1 = true from ho), if_pos]
  have : cnt h a = (og h a).1.2.2.2.1 := rfl
  omega
 exact ⟨i, he, by rw [fldV_rg f he]; exact h2, by rw [fldV_rg f he]; exact h3⟩
theorem GX.refer {h0 : Heap} {vs : List Val} {w : WrldT} (G : GX h0 vs w) : referB w.2.1 = true := by
 have q := G.T.I.p
 unfold referB pgsB
 rw [List.all_eq_true]
 intro p hp
 have hp := List.mem_range.1 hp
 refine pgB_all.2 fun hs i hi => ?_
 obtain ⟨w', B⟩ := blkF_of q.f hp hs hi
 unfold refB
 cases e : (decide (stP w.2.1 p = 1) || bk w.2.1 (blA w.2.1 p i : Nat)) with
 | false => rfl
 | true =>
  rw [Bool.not_true, Bool.false_or, List.all_eq_true]
  intro b hb
  rw [Bool.or_eq_true, decide_eq_true_eq] at e
  cases ho : okA w.2.1 (blA w.2.1 p i : Nat) with
  | true =>
   obtain ⟨k, he, hk, rfl⟩ := refs_fld q.f ho hb
   refine G.refs ?_ he hk
   rw [blk_span B]
   exact e
  | false =>
   exfalso
   unfold refsO cnt at hb
   unfold okA at ho
   rw [og_else (b := (blA w.2.1 p i : Nat)) ho] at hb
   cases hb
theorem GX.chk {h0 : Heap} {vs : List Val} {w : WrldT} (G : GX h0 vs w) : chkH w.2.1 = 0 := by
 have q := G.T.I.p
 unfold chkH
 rw [if_pos (hp_formB q), if_pos (filled_of q G.T.fl G.T.nz), if_pos (behind_of q G.T.fl G.T.nz), if_pos G.refer]
theorem GX.whole {h0 : Heap} {vs : List Val} {w : WrldT} (G : GX h0 vs w) : wholeW w = true := by
 unfold wholeW
 rw [G.T.I.form, G.chk, G.T.rd]
 rfl
theorem named_in {vs : List Val} {a : Int} (h : named vs a = true) : ∃ v : Val, v ∈ vs ∧ v.1 = 2 ∧ v.2.1 = a := by
 unfold named at h
 obtain ⟨v, hv, h⟩ := List.any_eq_true.1 h
 exact ⟨v, hv, one_iff.1 h⟩
theorem in_named {vs : List Val} {v : Val} {x : Int} (hv : v ∈ vs) (h1 : v.1 = 2) (h2 : v.2.1 = x) : named vs x = true := by
 unfold named
 exact List.any_eq_true.2 ⟨_, hv, one_iff.2 ⟨h1, h2⟩⟩
theorem itv_in {g : Grey} {a : Int} (h : a ∈ g.2.1) : ((2, a, ()) : Val) ∈ itV g := List.mem_map.2 ⟨a, h, rfl⟩
theorem MK.todo {h0 : Heap} {vs : List Val} {h : Heap} {m : MarkT} {ms : List MutT} (K : MK h0 vs h m ms) (f : FormP h) (hov : m.2.2.2.2.2.2.1 = false) (hcu : m.2.2.2.2.2.1 = -1) {a : Int} (r : Rch h0 vs a) : bk h a = true ∨ Rch h (todoL m) a := by
 have sh : ∀ b, okA h b = true → Shd2 h m b → bk h b = true ∨ Rch h (todoL m) b := fun b hb hs => by
  rcases hs with h1 | h1
  ·exact .inl h1
  ·obtain ⟨v, hv, h2, h3⟩ := named_in h1
   refine .inr (Rch.base hb (in_named (v := v) ?_ h2 h3))
   unfold todoL
   exact List.mem_append_left _ (List.mem_append_left _ hv)
 have it : ∀ b, okA h b = true → itm m b → Rch h (todoL m) b := fun b hb hi => by
  refine Rch.base hb (in_named (v := (2, b, ())) ?_ rfl rfl)
  unfold todoL
  refine List.mem_append_left _ (List.mem_append_right _ ?_)
  rcases hi with hi | ⟨g, hg, hi⟩
  ·exact List.mem_append_right _ (itv_in hi)
  ·exact List.mem_append_left _ (List.mem_flatMap.2 ⟨g, hg, itv_in hi⟩)
 have ob : ∀ b, okA h b = true → m.2.2.2.1 = b → Rch h (todoL m) b := fun b hb he => by
  refine Rch.base hb (in_named (v := (2, b, ())) ?_ rfl rfl)
  unfold todoL
  rw [he]
  exact List.mem_append_right _ (List.mem_singleton.2 rfl)
 induction r with
 | @base a ho hn => exact sh a (K.ok a ho).1 (K.r a ho hn)
 | @step a b ra hb hob ih =>
  obtain ⟨i, t⟩ := refs_tgt K.f0 ra.ok hb hob
  have hbo := (K.ok b hob).1
  have hao := (K.ok a ra.ok).1
  have hfe : fe h a i = 0 := by
   obtain ⟨-, i0, i1⟩ := fe_ok t.fe
   exact fe_0 hao i0 (by rw [(K.ok a ra.ok).2]; exact i1)
  have stp : Rch h (todoL m) a → bk h b = true ∨ Rch h (todoL m) b := fun hr => by
   rcases K.fl a i b t with e | e
   ·exact .inr (Rch.step hr (tgt_refs f (a := a) (i := i) ⟨hfe, by rw [e]; exact t.k, by rw [e]; exact t.n, hbo⟩) hbo)
   ·exact sh b hbo e
  rcases ih with h1 | h1
  ·rcases K.t a i b t h1 with h2 | h2 | ⟨h2, -⟩ | h2 | ⟨h2, -⟩
   ·exact sh b hbo h2
   ·exact stp (it a hao h2)
   ·exact stp (ob a hao h2)
   ·rw [hov] at h2; cases h2
   ·exact absurd hcu h2
  ·exact stp h1
end Go.Proofs.YtbkjmefhenpmlaaGreatDoor.Den
/- Pure laws: worlds from a new one on. -/
namespace Go.Proofs.YtbkjmefhenpmlaaGreatDoor.Den
open Go
set_option linter.unusedVariables false
set_option linter.unusedSimpArgs false
set_option maxRecDepth 100000
structure MS (m : MarkT) : Prop where
 gl : m.1.2.1.length ≤ 20
 bl : m.2.1.length ≤ 10
 il : ∀ g : Grey, g ∈ m.2.1 → g.2.1.length ≤ 20
 rl : m.2.2.1.length ≤ 700
 tv : ∀ v : Val, v ∈ todoL m → -9223372036854775808 ≤ v.2.1 ∧ v.2.1 < 9223372036854775808
theorem MS.of {h : Heap} {m : MarkT} (f : FormP h) (p : MkP h m) (r : m.2.2.1.length ≤ 700) : MS m := by
 have ob := (p.mr f).ob
 refine ⟨by have := p.g.len; have := p.g.r16; omega, p.bl, fun g hg => by have := (p.b g hg).len; have := (p.b g hg).r16; omega, r, fun v hv => ?_⟩
 unfold todoL at hv
 rcases List.mem_append.1 hv with hv | hv
 ·rcases List.mem_append.1 hv with hv | hv
  ·exact p.rv v hv
  ·rcases List.mem_append.1 hv with hv | hv
   ·obtain ⟨g, hg, hv⟩ := List.mem_flatMap.1 hv
    obtain ⟨a, ha, rfl⟩ := List.mem_map.1 hv
    have := p.bi g hg a ha
    unfold inI at this
    show -9223372036854775808 ≤ a ∧ a < 9223372036854775808
    omega
   ·obtain ⟨a, ha, rfl⟩ := List.mem_map.1 hv
    have := p.gi a ha
    unfold inI at this
    show -9223372036854775808 ≤ a ∧ a < 9223372036854775808
    omega
 ·rw [List.mem_singleton.1 hv]
  exact ob
theorem MS.zero : MS ((0, [], ()), [], [], 0, 0, 0, false, ()) := by
 refine ⟨by show (0 : Nat) ≤ 20; omega, by show (0 : Nat) ≤ 10; omega, fun g hg => (by cases hg), by show (0 : Nat) ≤ 700; omega, fun v hv => ?_⟩
 have hv : v ∈ [((2 : Int), (0 : Int), ())] := hv
 rw [List.mem_singleton.1 hv]
 show (-9223372036854775808 : Int) ≤ 0 ∧ (0 : Int) < 9223372036854775808
 decide
def mnew : MutT := ([], 0, (0, 0, 0, 0, ()), 0, (0, 0, ()), [-1, -1, -1, -1], ())
def newW (c : Conf) : WrldT := (c, fresh c.1.toNat, List.replicate c.2.1.toNat mnew, ((0, [], ()), [], [], 0, 0, 0, false, ()), 0, false, 0, [], ())
theorem fresh_word (n j : Nat) : (fresh n).1.getD j 0 = 0 := by
 show (List.replicate (32 * n) (0 : Int)).getD j 0 = 0
 simp only [List.getD, List.getElem?_replicate]
 split <;> rfl
theorem fresh_span (n k : Nat) : (fresh n).2.1.getD k sz = sz := by
 show (List.replicate n sz).getD k sz = sz
 simp only [List.getD, List.getElem?_replicate]
 split <;> rfl
theorem fresh_no (n : Nat) (a : Int) : okA (fresh n) a = false := by
 cases h : okA (fresh n) a with
 | false => rfl
 | true =>
  have h2 := (of_decide_eq_true (og_ok h).1).2.2.1
  unfold spanOf at h2
  rw [fresh_span] at h2
  exact absurd rfl h2
theorem new_held (n : Nat) : heldL (List.replicate n mnew) = [] := by
 unfold heldL
 induction n with
 | zero => rfl
 | succ n ih => rw [List.replicate_succ, List.flatMap_cons, ih]; rfl
theorem new_caches (n : Nat) : cachesW (List.replicate n mnew) = List.replicate n [-1, -1, -1, -1] := by
 unfold cachesW
 rw [List.map_replicate]
 rfl
theorem new_lin (n t : Nat) (ht : t < 4 * n) : lin (List.replicate n [-1, -1, -1, -1]) t = -1 := by
 unfold lin ent
 have h1 : (List.replicate n ([-1, -1, -1, -1] : List Int)).getD (t / 4) z4 = [-1, -1, -1, -1] := by
  rw [get_d _ _ _ (by rw [List.length_replicate]; omega), List.getElem_replicate]
 rw [h1]
 obtain h | h | h | h : t % 4 = 0 ∨ t % 4 = 1 ∨ t % 4 = 2 ∨ t % 4 = 3 := by omega
 all_goals rw [h]; rfl
theorem new_GX {c : Conf} (hc : mayP c) : GX (fresh 0) [] (newW c) := by
 obtain ⟨c1, c2, c3, c4, c5, c6, -⟩ := id hc
 obtain ⟨p, hp⟩ := Int.eq_ofNat_of_zero_le (show 0 ≤ c.1 by omega)
 obtain ⟨n, hn⟩ := Int.eq_ofNat_of_zero_le (show 0 ≤ c.2.1 by omega)
 have q : HP (fresh p) := (inv_fresh (n := p) (by omega) (by omega)).hp
 have ep : c.1.toNat = p := by omega
 have en : c.2.1.toNat = n := by omega
 have hm : ∀ m : MutT, m ∈ List.replicate n mnew → m = mnew := fun m h => List.eq_of_mem_replicate h
 have no : ∀ {P : Prop} (a : Int), okA (fresh p) a = true → P := fun a h => by rw [fresh_no] at h; cases h
 have ew : newW c = (c, fresh p, List.replicate n mnew, ((0, [], ()), [], [], 0, 0, 0, false, ()), 0, false, 0, [], ()) := by
  unfold newW
  rw [ep, en]
 rw [ew]
 refine ⟨⟨⟨q, ⟨by rw [List.length_replicate]; omega, fun m h => by rw [hm m h]; show (0 : Nat) ≤ 20; omega, fun m h => by rw [hm m h]; show (-9223372036854775808 : Int) ≤ 0 ∧ (0 : Int) < 9223372036854775808; decide⟩, fun v hv => ?_, ?_, hc, ?_, ?_, ?_, ?_, by show (0 : Int) ≤ 0 ∧ (0 : Int) ≤ 2; decide, fun h => absurd (show (0 : Int) = 1 from h) (by decide), ?_⟩, fun a i ha hs => ?_, fun j hj => absurd (fresh_word p j) hj, ?_, by show (0 : Nat) ≤ 1000; omega⟩, fun _ => ⟨fun a i hb => no a (bk_ok hb), fun v hv => ?_, fun a ha => no a ha⟩, fun _ => ?_, fun h => absurd (show (0 : Int) = 1 from h) (by decide)⟩
 ·have hv : v ∈ heldL (List.replicate n mnew) := hv
  rw [new_held] at hv; cases hv
 ·show Row4 (cachesW (List.replicate n mnew))
  rw [new_caches]
  intro r hr
  rw [List.eq_of_mem_replicate hr]
  rfl
 ·show ((List.replicate p sz).length : Int) = c.1
  rw [List.length_replicate]; omega
 ·show ((List.replicate n mnew).length : Int) = c.2.1
  rw [List.length_replicate]; omega
 ·rw [List.all_eq_true]
  intro m h
  rw [hm m h]
  unfold stkB
  refine decide_eq_true ?_
  show ((0 : Nat) : Int) ≤ c.2.2.1
  omega
 ·show RightP (fresh p) (cachesW (List.replicate n mnew))
  rw [new_caches]
  refine ⟨fun t ht => .inl (new_lin n t (by rw [List.length_replicate] at ht; exact ht)), fun t u ht hu hne _ => absurd (new_lin n t (by rw [List.length_replicate] at ht; exact ht)) hne⟩
 ·exact ⟨by show (0 : Nat) ≤ _; omega, by show (0 : Nat) ≤ _; omega, fun g hg => (by cases hg), by show (-9223372036854775808 : Int) ≤ 0 ∧ (0 : Int) < 9223372036854775808; decide⟩
 ·have hs : stP (fresh p) a ≠ 0 := hs
  unfold stP at hs
  rw [fresh_span] at hs
  exact absurd rfl hs
 ·unfold rdyW
  rw [List.all_eq_true]
  intro m h
  rw [hm m h]
  rfl
 ·have hv : v ∈ heldL (List.replicate n mnew) := hv
  rw [new_held] at hv; cases hv
 ·show dcnt (fresh p) = 0
  refine dcnt_zero fun i hi => ?_
  rw [fresh_span]
  decide
structure GI (w : WrldT) : Prop where
 g : ∃ h0 vs, GX h0 vs w
 s : MS w.2.2.2.1
theorem GI.T {w : WrldT} (G : GI w) : TW w := by
 obtain ⟨h0, vs, g⟩ := G.g
 exact g.T
theorem GI.new {c : Conf} (hc : mayP c) : GI (newW c) := ⟨⟨_, _, new_GX hc⟩, MS.zero⟩
theorem GI.sl {w : WrldT} (G : GI w) (hr : w.2.2.2.2.2.2.2.1.length ≤ 1000) : SL w := by
 have T := G.T
 have S := G.s
 have h1 := T.I.p.f.n16
 have h2 := T.I.p.f.len
 exact ⟨by omega, by omega, by have := T.I.ms.len; omega, fun m hm => by have := T.I.ms.st m hm; omega, by have := S.gl; omega, by have := S.bl; omega, fun g hg => by have := S.il g hg; omega, by have := S.rl; omega, hr⟩
end Go.Proofs.YtbkjmefhenpmlaaGreatDoor.Den
