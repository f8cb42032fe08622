
/- Pure laws: the heap keeps its form; the program does as the reference. -/
import Derived.Test.YtebdioogklmeaaaDoorDenRh
import Derived.Test.YtebdioogklmeaaaDoorDenPj
namespace Go.Proofs.YtebdioogklmeaaaDoor.Den
open Go
set_option linter.unusedVariables false
set_option linter.unusedSimpArgs false
set_option maxRecDepth 100000

/-- A heap that has its form, whose words and masks are numbers. -/
structure HP (h : Heap) : Prop where
  f : FormP h
  fr : FreeP h
def WP (ws : List Int) : Prop := ∀ w ∈ ws, (0 : Int) ≤ w ∧ w < 18446744073709551616
theorem wp_zer {ws : List Int} (hw : WP ws) (a k : Nat) : WP (zer ws a k) := by
  intro w hm
  simp only [zer, segSet, List.mem_append] at hm
  rcases hm with (hm | hm) | hm
  · exact hw w (List.mem_of_mem_take hm)
  · rw [(List.mem_replicate.1 hm).2]; omega
  · exact hw w (List.mem_of_mem_drop hm)
theorem wp_set {ws : List Int} (hw : WP ws) (a : Nat) {v : Int} (h0 : 0 ≤ v) (h1 : v < 18446744073709551616) : WP (ws.set a v) := by
  intro w hm
  rcases List.mem_or_eq_of_mem_set hm with h | rfl
  · exact hw w h
  · exact ⟨h0, h1⟩
theorem hp_words {h : Heap} (q : HP h) {ws : List Int} (hw : WP ws) (hl : ws.length = h.1.length) : HP (ws, h.2.1, h.2.2) :=
  ⟨⟨q.f.n1, q.f.n16, by show ws.length = _; rw [hl]; exact q.f.len, q.f.right, hw⟩, q.fr⟩
theorem hp_setSp {h : Heap} (q : HP h) (p : Int) {s : Span} (hr : rightB s = true) (h0 : 0 ≤ s.2.2.1) : HP (setSp h p s) := ⟨setSp_form q.f p hr, setSp_free q.fr p h0⟩
theorem right_sz : rightB sz = true := by kernel_rfl
theorem right_new {c : Int} (c0 : 0 ≤ c) (c3 : c ≤ 3) : rightB (1, c, 2 ^ (cb c).toNat - 1, ()) = true ∧ (0 : Int) ≤ 2 ^ (cb c).toNat - 1 := by
  have : (0 : Int) < 2 ^ (cb c).toNat := Int.pow_pos (by decide)
  refine ⟨?_, by omega⟩
  simp only [rightB]
  rw [if_neg (by decide)]
  exact decide_eq_true ⟨.inl trivial, c0, c3, by omega⟩
theorem right_xr {s : Span} (hr : rightB s = true) (h0 : 0 ≤ s.2.2.1) (hu : s.1 ≠ 0) {i : Nat} (hi : (i : Int) < cb s.2.1) : rightB (s.1, s.2.1, xr s.2.2.1 i, ()) = true := by
  obtain ⟨a, b, c, d⟩ := right_use hr hu
  simp only [rightB]
  rw [if_neg hu]
  exact decide_eq_true ⟨a, b, c, xr_lt h0 d (by omega)⟩
theorem opened_hp {h : Heap} (q : HP h) {p c : Int} (i : openP h p c) : HP (opened h p c) :=
  hp_setSp q p (right_new i.2.1 i.2.2.1).1 (right_new i.2.1 i.2.2.1).2
theorem closed_hp {h : Heap} (q : HP h) (p : Int) : HP (setSp h p sz) := hp_setSp q p right_sz (by show (0 : Int) ≤ 0; omega)
theorem freed_hp {h : Heap} (q : HP h) {a : Int} (i : freeP h a) : HP (freed h a) := by
  obtain ⟨hb, hg⟩ := i
  obtain ⟨ip, es⟩ := fnd_page hb
  have hr := fnd_room q.f hb
  have hc := cw_le (spanOf h a).2.1
  have hR := q.f.right _ ip.mem
  have h0 := q.fr _ ip.mem
  rw [es] at hR h0
  have hu : (spanOf h a).1 ≠ 0 := by have := hg.1; omega
  have := hp_words (hp_setSp q (a / 32) (right_xr hR h0 hu (i := (blkI h a).toNat) (by have := hg.2.1; have := hg.2.2.1; omega)) (xr_nonneg _ _)) (ws := zer h.1 a.toNat (cw (spanOf h a).2.1).toNat) (wp_zer q.f.word _ _) (zer_len (by omega))
  exact this
theorem hword_rng {c n : Int} (c0 : 0 ≤ c) (c3 : c ≤ 3) (n0 : 0 ≤ n) (n1 : n < cw c) (b : Bool) : 128 ≤ hword c b n ∧ hword c b n < 256 := by
  have := cw_le c
  unfold hword
  cases b <;> simp only [cond_true, cond_false] <;> omega
theorem laid_hp {h : Heap} (q : HP h) {p n : Int} (i : layP h p n) {k : Nat} (hk : (k : Int) < cb (spanAt h p).2.1) : HP (laid h p k n) := by
  obtain ⟨ip, hs, hz, n0, n1⟩ := i
  have hR := q.f.right _ ip.mem
  have h0 := q.fr _ ip.mem
  have hl := q.f.len
  obtain ⟨⟨c0, c3⟩, m0, m1⟩ := lay_room q.f q.fr ip (by omega) hk
  have hA : 0 ≤ layA h p k ∧ layA h p k + cw (spanAt h p).2.1 ≤ h.1.length := by have := ip.1; have := ip.2; unfold layA; omega
  have hc := cw_le (spanAt h p).2.1
  have hw := hword_rng c0 c3 n0 n1 h.2.2.1
  exact hp_words (hp_setSp q p (right_xr hR h0 (by omega) hk) (xr_nonneg _ _)) (wp_set (wp_zer q.f.word _ _) _ (by omega) (by omega)) (by rw [List.length_set, zer_len (by omega)]; rfl)
theorem hp_of {h : Heap} (g : Good cHeap h) (hb : formB h = true) : HP h := ⟨form_of g hb, fun s hs => (good_span g hs).1⟩

/-! The program does as the reference. -/
theorem open_same {h : Heap} (q : HP h) (p c : Int) : ∃ g b, heap_Open (h, p, c, ()) = some (g, b, ()) ∧ flotsamref07_Open (h, p, c, ()) = some (g, b, ()) ∧ HP g := by
  by_cases i : openP h p c
  · exact ⟨_, _, open_in q.f i, open7_in q.f i, opened_hp q i⟩
  · exact ⟨_, _, open_out i, open7_out i, q⟩
theorem lay_same {h : Heap} (q : HP h) (p n : Int) : ∃ g a b, heap_Lay (h, p, n, ()) = some (g, a, b, ()) ∧ flotsamref07_Lay (h, p, n, ()) = some (g, a, b, ()) ∧ HP g := by
  by_cases i : layP h p n
  · obtain ⟨k, _, hk, e1, e2⟩ := lay_in q.f q.fr i
    exact ⟨_, _, _, e1, e2, laid_hp q i hk⟩
  · exact ⟨_, _, _, (lay_out q.f q.fr i).1, (lay_out q.f q.fr i).2, q⟩
end Go.Proofs.YtebdioogklmeaaaDoor.Den
