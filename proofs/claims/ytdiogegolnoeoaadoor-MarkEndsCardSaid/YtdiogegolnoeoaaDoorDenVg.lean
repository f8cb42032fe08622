/- Pure laws: marking from the beginning. -/
import Derived.Test.YtdiogegolnoeoaaDoorDenVf
namespace Go.Proofs.YtdiogegolnoeoaaDoor.Den
open Go
set_option linter.unusedVariables false
set_option linter.unusedSimpArgs false
set_option maxRecDepth 100000

theorem black15_eq {h : Heap} (f : FormP h) : flotsamref15_Black (h, ()) = some ((lst h).filter (bk h), ()) := by
  have hL := lst_len f
  have key : flotsamref15_Black_l0 (0, h, lst h, [], ()) = some (.out ((lst h).filter (bk h), ())) := by
    unfold flotsamref15_Black_l0
    refine iterL_run (lst h).length (fun i => ((i : Int), h, lst h, ((lst h).take i).filter (bk h), ())) (fun i hi => ?_) ?_ (by omega) rfl
    · have hf : (((lst h).take i).filter (bk h)).length ≤ 512 := by
        have := List.length_filter_le (bk h) ((lst h).take i)
        rw [List.length_take] at this; omega
      simp only [flotsamref15_Black_s0, flotsamref15_Black_s0r, Bool.cond_decide, Int.toNat_natCast, get_d _ _ _ hi, black8_eq f, Option.bind_some]
      rw [if_pos (by omega), if_pos (by omega), if_pos (by omega), wi64_id (by omega) (by omega), ← List.take_append_getElem hi, List.filter_append]
      cases hc : bk h (lst h)[i] with
      | true =>
        rw [cond_true, if_pos (by omega), if_pos (by omega), if_pos (by omega)]
        simp [List.filter_cons, hc]
      | false =>
        rw [cond_false]
        simp [List.filter_cons, hc]
    · simp only [flotsamref15_Black_s0, flotsamref15_Black_s0r, Bool.cond_decide]
      rw [if_neg (by omega), List.take_length]
  simp only [flotsamref15_Black, flotsamref15_Black_r, list_eq f, key, Option.bind_some]
theorem rch_more {h : Heap} {a b : List Val} (hn : ∀ p, named a p = true → named b p = true) {p : Int} (r : Rch h a p) : Rch h b p := by
  induction r with
  | base ho h1 => exact .base ho (hn _ h1)
  | step _ hb ho ih => exact .step ih hb ho
/-- Marking, in the midst. -/
structure RunM (h0 : Heap) (vs : List Val) (h : Heap) (m : MarkT) : Prop where
  pt : ∃ S, h = pn h0 S
  p : MkP h m
  s : Snd h0 vs h m
theorem RunM.form {h0 h : Heap} (f0 : FormP h0) {vs : List Val} {m : MarkT} (r : RunM h0 vs h m) : FormP h := by
  obtain ⟨S, e⟩ := r.pt
  rw [e]; exact f0.pn S
theorem RunM.step {h0 h h' : Heap} (f0 : FormP h0) (ap : apB h0 = true) {vs : List Val} {m m' : MarkT} (r : RunM h0 vs h m) (s : Stp h m h' m') : RunM h0 vs h' m' ∧ pot h0 h' m' + 1 ≤ pot h0 h m := by
  obtain ⟨S, e⟩ := r.pt
  have f : FormP h := r.form f0
  obtain ⟨T, e2⟩ := s.paint
  refine ⟨⟨⟨_, by rw [e2, e, pn_pn f0]⟩, s.mk f r.p, s.snd f0 ap e r.s⟩, s.pot f0 e⟩
theorem RunM.note {h0 h : Heap} (f0 : FormP h0) {vs : List Val} {m : MarkT} (r : RunM h0 vs h m) {k : Nat} (hk : k < m.2.1.length) {v : Val} (hv : Rch h0 vs v.2.1) : RunM h0 vs (nt h m k v).1 (nt h m k v).2 ∧ pot h0 (nt h m k v).1 (nt h m k v).2 ≤ pot h0 h m := by
  obtain ⟨S, e⟩ := r.pt
  have f : FormP h := r.form f0
  obtain ⟨xs, g, ys, g', w, e1, s, e2⟩ := nt_cases f hk v
  obtain ⟨T, e3⟩ := s.paint
  exact ⟨⟨⟨_, by rw [e3, e, pn_pn f0]⟩, nt_mk f hk v r.p, nt_snd f0 e hk hv r.s⟩, nt_pot f0 e hk v⟩
/-- Begun where all is white. -/
def newM (g : Int) (bs : List Int) (vs : List Val) : MarkT := ((g, [], ()), bs.map (fun b => (b, [], ())), vs, -1, 0, -1, false, ())
theorem begun {h : Heap} (f : FormP h) (nb : ∀ a, bk h a = false) {g : Int} (g0 : 0 ≤ g) (g1 : g ≤ 16) {bs : List Int} (hb : bs.length ≤ 10) (hr : ∀ b ∈ bs, 0 ≤ b ∧ b ≤ 16) {vs : List Val} (hv : vs.length ≤ 1000) (hw : ∀ v : Val, v ∈ vs → -9223372036854775808 ≤ v.2.1 ∧ v.2.1 < 9223372036854775808) :
    RunM h vs h (newM g bs vs) ∧ Tri h vs h (newM g bs vs) := by
  refine ⟨⟨⟨fun _ => false, pn_none.symm⟩, ⟨⟨g0, g1, ?_⟩, fun a ha => (by cases ha), fun x hx => ?_, fun x hx a ha => ?_, ?_, hv, hw, ?_, .inl ⟨rfl, rfl⟩⟩, ⟨fun a ha => ?_, fun a ha hn => .base ha hn, fun a ha hi => ?_, fun h => absurd rfl h⟩⟩, ⟨fun a i b t ha => ?_, fun a ha hn => .inr hn⟩⟩
  · show ((0 : Nat) : Int) ≤ g
    omega
  · obtain ⟨b, h1, rfl⟩ := List.mem_map.1 hx
    have := hr b h1
    exact ⟨this.1, this.2, by show ((0 : Nat) : Int) ≤ b; omega⟩
  · obtain ⟨b, h1, rfl⟩ := List.mem_map.1 hx
    cases ha
  · show (bs.map _).length ≤ 10
    rw [List.length_map]; exact hb
  · exact ⟨Int.le_refl _, by show (-1 : Int) ≤ (h.1.length : Int); omega⟩
  · rw [nb] at ha; cases ha
  · rcases hi with hi | ⟨x, hx, hi⟩
    · cases hi
    · obtain ⟨b, h1, rfl⟩ := List.mem_map.1 hx
      cases hi
  · rw [nb] at ha; cases ha
theorem ended_heap {h0 h : Heap} (f0 : FormP h0) (nb : ∀ a, bk h0 a = false) {vs : List Val} {m : MarkT} (r : RunM h0 vs h m) (t : Tri h0 vs h m) (d : Dn m) : h = pn h0 (rchB h0 vs) := by
  obtain ⟨S, e⟩ := r.pt
  rw [e]
  refine pn_congr f0 fun a ho _ => ?_
  have h1 : S a = bk h a := by rw [e, bk_pn f0, ho, nb]; simp
  rw [h1]
  exact Bool.eq_iff_iff.2 ⟨fun hb => rchB_iff.2 (r.s.b a hb), fun hr => tri_done f0 d t a (rchB_iff.1 hr)⟩
def trn (h : Heap) : Heap := (h.1, h.2.1, !h.2.2.1, ())
theorem trn_form {h : Heap} (f : FormP h) : FormP (trn h) := ⟨f.n1, f.n16, f.len, f.right, f.word⟩
theorem trn_ap (h : Heap) : apB (trn h) = apB h := rfl
theorem no_black {h : Heap} (f : FormP h) (e : ¬ (((lst h).filter (bk h)).length : Int) > 0) (a : Int) : bk h a = false := by
  cases hb : bk h a with
  | false => rfl
  | true =>
    have : a ∈ (lst h).filter (bk h) := List.mem_filter.2 ⟨(mem_lst f).2 (bk_ok hb), hb⟩
    have := List.length_pos_of_mem this
    omega
end Go.Proofs.YtdiogegolnoeoaaDoor.Den
