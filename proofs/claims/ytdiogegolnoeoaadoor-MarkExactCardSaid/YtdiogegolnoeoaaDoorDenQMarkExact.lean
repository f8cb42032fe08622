/- The pure law MarkExact. -/
import Derived.Test.YtdiogegolnoeoaaDoorDenVg
namespace Go.Proofs.YtdiogegolnoeoaaDoor.Den
open Go
set_option linter.unusedVariables false
set_option linter.unusedSimpArgs false
set_option maxRecDepth 100000

theorem exact_l0 {h0 : Heap} (f0 : FormP h0) (ap : apB h0 = true) (nb : ∀ a, bk h0 a = false) {vs : List Val} {m0 : MarkT} (r0 : RunM h0 vs h0 m0) (t0 : Tri h0 vs h0 m0) {notes : List Int} (hq : notes.length ≤ 50) (hn : ∀ n ∈ notes, 0 ≤ n ∧ n ≤ 255) {N : Nat} (hN : bnd h0 m0 + 100 ≤ N) (hN2 : N ≤ 10000000) :
    flotsamlaw17_MarkExact_l0 (notes, (N : Int), 0, h0, m0, (lst h0).filter (rchB h0 vs), ()) = some (.ret (true, ())) := by
  have hpot := pot_le f0 (S := fun _ => false) pn_none.symm r0.p
  have hL := lst_len f0
  have hwl : ((lst h0).filter (rchB h0 vs)).length ≤ 512 := Nat.le_trans (List.length_filter_le _ _) hL
  have hwm : ∀ a ∈ (lst h0).filter (rchB h0 vs), Rch h0 vs a := fun a ha => rchB_iff.1 (List.mem_filter.1 ha).2
  have hwe : ∀ (h : Heap) (m : MarkT), RunM h0 vs h m → Tri h0 vs h m → Dn m → (lst h).filter (bk h) = (lst h0).filter (rchB h0 vs) := fun h m r t d => by
    obtain ⟨S, e⟩ := r.pt
    have : lst h = lst h0 := by rw [e]; exact lst_pn f0 S
    rw [this]
    exact List.filter_congr fun a _ => Bool.eq_iff_iff.2 ⟨fun hb => rchB_iff.2 (r.s.b a hb), fun hr => tri_done f0 d t a (rchB_iff.1 hr)⟩
  generalize (lst h0).filter (rchB h0 vs) = W at *
  have key : ∃ l, flotsamlaw17_MarkExact_l0 (notes, (N : Int), 0, h0, m0, W, ()) = some l ∧ l = .ret (true, ()) := by
    unfold flotsamlaw17_MarkExact_l0
    refine iterL_rule (fun n x => ∃ (i : Nat) (h : Heap) (m : MarkT), x = (notes, (N : Int), (i : Int), h, m, W, ()) ∧ n = N + 1 - i ∧ pot h0 h m + (i - notes.length) ≤ bnd h0 m0 ∧ RunM h0 vs h m ∧ Tri h0 vs h m) ?_ _ (N + 1) _ (by omega) ⟨0, h0, m0, rfl, by omega, by omega, r0, t0⟩
    rintro n x ⟨i, h, m, rfl, rfl, hp, r, t⟩
    have iN : i ≤ N := by omega
    have wi : wi64 ((i : Int) + 1) = ((i + 1 : Nat) : Int) := by rw [wi64_id (by omega) (by omega)]; rfl
    -- a step, while there is something to be noted
    have stepA : i < notes.length → ∀ (h1 : Heap) (m1 : MarkT), RunM h0 vs h1 m1 → Tri h0 vs h1 m1 → pot h0 h1 m1 ≤ pot h0 h m → ∃ h' m' b, mark_Step (h1, m1, ()) = some (h', m', b, ()) ∧ pot h0 h' m' + (i + 1 - notes.length) ≤ bnd h0 m0 ∧ RunM h0 vs h' m' ∧ Tri h0 vs h' m' := by
      intro hi h1 m1 r1 t1 hp1
      have f := r1.form f0
      rcases stp_cases f r1.p with ⟨e, d⟩ | ⟨h', m', e, s⟩
      · exact ⟨h1, m1, true, by rw [step_eq f r1.p, e], by omega, r1, t1⟩
      · obtain ⟨S, eS⟩ := r1.pt
        obtain ⟨r', hp'⟩ := r1.step f0 ap s
        exact ⟨h', m', false, by rw [step_eq f r1.p, e], by omega, r', s.tri f0 ap eS t1⟩
    have c0 : (i : Int) ≤ (N : Int) := by omega
    have c1 : (0 : Int) ≤ (i : Int) := by omega
    by_cases hi : i < notes.length
    · have c2 : (i : Int) < (notes.length : Int) := by omega
      have c3 : ¬ (i : Int) ≥ (notes.length : Int) := by omega
      have hs := stepA hi
      have go : ∀ (h' : Heap) (m' : MarkT), pot h0 h' m' + (i + 1 - notes.length) ≤ bnd h0 m0 → RunM h0 vs h' m' → Tri h0 vs h' m' → ∃ m_1 y, m_1 < N + 1 - i ∧ (some (SRes.next (notes, (N : Int), ((i + 1 : Nat) : Int), h', m', W, ())) : Option (SRes (.cons (.sl (.int .u8)) (.cons cI (.cons cI (.cons cHeap (.cons cMarker (.cons (.sl cI) .nil)))))) .nil (.cons .bool .nil))) = some (.next y) ∧ ∃ (i : Nat) (h : Heap) (m : MarkT), y = (notes, (N : Int), (i : Int), h, m, W, ()) ∧ m_1 = N + 1 - i ∧ pot h0 h m + (i - notes.length) ≤ bnd h0 m0 ∧ RunM h0 vs h m ∧ Tri h0 vs h m :=
        fun h' m' q1 q2 q3 => ⟨N + 1 - (i + 1), _, by omega, rfl, i + 1, h', m', rfl, rfl, q1, q2, q3⟩
      simp only [flotsamlaw17_MarkExact_s0, flotsamlaw17_MarkExact_s0r, Bool.cond_decide, ibeq]
      rw [if_pos c0, if_pos c2]
      refine .inl ?_
      by_cases hW : (W.length : Int) > 0
      · rw [if_pos hW]
        by_cases hb : (m.2.1.length : Int) = 2
        · have hgn := hn _ (List.getElem_mem hi)
          have hW0 : ¬ (W.length : Int) = 0 := by omega
          rw [if_pos hb, if_pos c1, if_pos c2, if_neg hW0, Int.toNat_natCast, get_d _ _ _ hi, wi64_id (n := notes[i]) (by omega) (by omega)]
          have ek : notes[i].tmod (W.length : Int) = notes[i] % (W.length : Int) := Int.tmod_eq_emod_of_nonneg hgn.1
          have k0 : 0 ≤ notes[i].tmod (W.length : Int) := by rw [ek]; exact Int.emod_nonneg _ hW0
          have k1 : notes[i].tmod (W.length : Int) < (W.length : Int) := by rw [ek]; exact Int.emod_lt_of_pos _ (by omega)
          rw [if_pos k0, if_pos k1]
          generalize notes[i].tmod (W.length : Int) = K at *
          have hm : W.getD K.toNat 0 ∈ W := by rw [get_d _ _ _ (by omega)]; exact List.getElem_mem _
          have hr := hwm _ hm
          have hrr := og_rng f0 hr.ok
          have hf16 := f0.n16
          have e2 : (i : Int).tmod 2 = ((i % 2 : Nat) : Int) := by rw [Int.tmod_eq_emod_of_nonneg c1]; omega
          have hk : i % 2 < m.2.1.length := by omega
          have hnote := note_eq (r.form f0) r.p hk (v := (2, W.getD K.toNat 0, ())) (by show -9223372036854775808 ≤ W.getD K.toNat 0; omega) (by show W.getD K.toNat 0 < 9223372036854775808; omega)
          obtain ⟨S, eS⟩ := r.pt
          obtain ⟨r1, p1⟩ := r.note f0 hk (v := (2, W.getD K.toNat 0, ())) hr
          have t1 := nt_tri f0 eS hk (v := (2, W.getD K.toNat 0, ())) t
          rw [e2, hnote]
          simp only [Option.bind_some]
          generalize nt h m (i % 2) (2, W.getD K.toNat 0, ()) = q at *
          obtain ⟨h', m', b, es, q1, q2, q3⟩ := hs q.1 q.2 r1 t1 p1
          have es : mark_Step (q.1, (q.2.1, q.2.2.1, q.2.2.2), ()) = _ := es
          rw [es]
          simp only [Option.bind_some]
          rw [if_neg c3, wi]
          cases b with
          | true => exact go h' m' q1 q2 q3
          | false => exact go h' m' q1 q2 q3
        · rw [if_neg hb]
          obtain ⟨h', m', b, es, q1, q2, q3⟩ := hs h m r t (Nat.le_refl _)
          rw [es]
          simp only [Option.bind_some]
          rw [if_neg c3, wi]
          cases b with
          | true => exact go h' m' q1 q2 q3
          | false => exact go h' m' q1 q2 q3
      · rw [if_neg hW]
        obtain ⟨h', m', b, es, q1, q2, q3⟩ := hs h m r t (Nat.le_refl _)
        rw [es]
        simp only [Option.bind_some]
        rw [if_neg c3, wi]
        cases b with
        | true => exact go h' m' q1 q2 q3
        | false => exact go h' m' q1 q2 q3
    · have c2 : ¬ (i : Int) < (notes.length : Int) := by omega
      have c3 : (i : Int) ≥ (notes.length : Int) := by omega
      simp only [flotsamlaw17_MarkExact_s0, flotsamlaw17_MarkExact_s0r, Bool.cond_decide, ibeq]
      rw [if_pos c0, if_neg c2]
      have f := r.form f0
      rw [show mark_Step (h, m, ()) = some (stp h m) from step_eq f r.p]
      simp only [Option.bind_some]
      rcases stp_cases f r.p with ⟨e, d⟩ | ⟨h', m', e, s⟩
      · rw [e]
        simp only [cond_true]
        rw [if_pos c3, black15_eq f, hwe h m r t d]
        simp only [Option.bind_some]
        rw [ints_eq W W (by omega)]
        exact .inr ⟨_, rfl, by simp⟩
      · rw [e]
        simp only [cond_false]
        obtain ⟨S, eS⟩ := r.pt
        obtain ⟨r', hp'⟩ := r.step f0 ap s
        rw [wi]
        exact .inl ⟨N + 1 - (i + 1), _, by omega, rfl, i + 1, h', m', rfl, rfl, by omega, r', s.tri f0 ap eS t⟩
  obtain ⟨l, e, rfl⟩ := key
  exact e
theorem markExact_pure : ∀ x, Good (.cons cHeap (.cons (.int .u8) (.cons (.int .u8) (.cons (.sl cVal) (.cons (.sl (.int .u8)) .nil))))) x → flotsamlaw17_MarkExact x = some (true, ()) := by
  rintro ⟨(h : Heap), (room : Int), (bar : Int), (vs : List Val), (notes : List Int), ⟨⟩⟩ ⟨gh, gr, gb, gv, gn, -⟩
  have gh : Good cHeap h := gh
  have gr : (0 : Int) ≤ room ∧ room ≤ 255 := gr
  have gb : (0 : Int) ≤ bar ∧ bar ≤ 255 := gb
  have hn : ∀ n ∈ notes, (0 : Int) ≤ n ∧ n ≤ 255 := fun n hn => gn.2 n hn
  have hw : ∀ v : Val, v ∈ vs → -9223372036854775808 ≤ v.2.1 ∧ v.2.1 < 9223372036854775808 := fun v hv => by
    obtain ⟨h1, h2⟩ : (-9223372036854775808 : Int) ≤ v.2.1 ∧ v.2.1 ≤ 9223372036854775807 := (gv.2 v hv).2.1
    omega
  simp only [flotsamlaw17_MarkExact, flotsamlaw17_MarkExact_r, awake17, form_eq gh, Option.bind_some, Bool.not_true, cond_false, Bool.cond_decide]
  cases hf : formB h with
  | false => simp only [Bool.not_false, cond_true]
  | true =>
  have f := form_of gh hf
  simp only [Bool.not_true, cond_false, apart_eq f, Option.bind_some]
  cases ha : apB h with
  | false => simp only [Bool.not_false, cond_true]
  | true =>
  simp only [Bool.not_true, cond_false]
  by_cases hl : (h.1.length : Int) > 128
  · rw [if_pos hl]
  by_cases hv : (vs.length : Int) > 50
  · rw [if_neg hl, if_pos hv]
  by_cases hq : (notes.length : Int) > 50
  · rw [if_neg hl, if_neg hv, if_pos hq]
  rw [if_neg hl, if_neg hv, if_neg hq]
  have f0 := trn_form f
  have ap : apB (trn h) = true := ha
  rw [show ((h.1, h.2.1, !h.2.2.1, h.2.2.2) : Heap) = trn h from rfl, black15_eq f0]
  simp only [Option.bind_some]
  by_cases hb : (((lst (trn h)).filter (bk (trn h))).length : Int) > 0
  · rw [if_pos hb]
  rw [if_neg hb]
  have nb := no_black f0 hb
  rw [show flotsamref15_From (trn h, vs, ()) = _ from from15_eq f0 (by omega)]
  simp only [Option.bind_some]
  rw [wi64_id (n := room) (by omega) (by omega), wi64_id (n := bar) (by omega) (by omega)]
  have e1 : room.tmod 17 = room % 17 := Int.tmod_eq_emod_of_nonneg gr.1
  have e2 : bar.tmod 9 = bar % 9 := Int.tmod_eq_emod_of_nonneg gb.1
  have hbs : ∀ b ∈ [bar.tmod 9, 2], (0 : Int) ≤ b ∧ b ≤ 16 := fun b hb => by
    rcases List.mem_cons.1 hb with rfl | hb
    · omega
    · rw [List.mem_singleton.1 hb]; omega
  obtain ⟨r0, t0⟩ := begun f0 nb (g := room.tmod 17) (by omega) (by omega) (bs := [bar.tmod 9, 2]) (by simp) hbs (vs := vs) (by omega) hw
  have hnew : mark_New (room.tmod 17, [bar.tmod 9, 2], vs, ()) = some (newM (room.tmod 17) [bar.tmod 9, 2] vs, true, ()) := new17_eq (by omega) (by omega) (by simp) hbs (by omega)
  have hbd := bound17_eq f0 r0.p
  have hbl := bnd_le f0 r0.p
  rw [hnew]
  generalize newM (room.tmod 17) [bar.tmod 9, 2] vs = m0 at *
  simp only [Option.bind_some, Bool.not_true, cond_false]
  rw [show flotsamref17_Bound (trn h, ((m0.1.1, m0.1.2.1, m0.1.2.2), m0.2.1, m0.2.2.1, m0.2.2.2), ()) = some ((bnd (trn h) m0 : Int), ()) from hbd]
  simp only [Option.bind_some]
  have hn16 := f.n16
  have hln := f.len
  rw [wi64_id (n := (h.1.length : Int) + 40) (by omega) (by omega), wi64_id (n := 60 * ((h.1.length : Int) + 40)) (by omega) (by omega), wi64_id (by omega) (by omega)]
  have eN : (bnd (trn h) m0 : Int) + 60 * ((h.1.length : Int) + 40) = ((bnd (trn h) m0 + 60 * (h.1.length + 40) : Nat) : Int) := by omega
  rw [eN]
  have key := exact_l0 f0 ap nb r0 t0 (notes := notes) (by omega) hn (N := bnd (trn h) m0 + 60 * (h.1.length + 40)) (by omega) (by omega)
  rw [show flotsamlaw17_MarkExact_l0 (notes, ((bnd (trn h) m0 + 60 * (h.1.length + 40) : Nat) : Int), 0, trn h, ((m0.1.1, m0.1.2.1, m0.1.2.2), m0.2.1, m0.2.2.1, m0.2.2.2), (lst (trn h)).filter (rchB (trn h) vs), ()) = _ from key]
  rfl
end Go.Proofs.YtdiogegolnoeoaaDoor.Den
