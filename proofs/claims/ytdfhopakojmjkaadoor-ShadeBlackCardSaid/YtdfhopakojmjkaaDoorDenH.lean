/- Operations that write: store, append; slices cut. -/
import Derived.Test.YtdfhopakojmjkaaDoorDenG
namespace Go.Proofs.YtdfhopakojmjkaaDoor.Den
open Go Go.RowKit
set_option linter.unusedVariables false

/-- A value is made: the state behind it. -/
def ValOk (B : Nat) (s : S4) (key : Nat) (run : Result Value) (v : V) (H' : HF) : Prop :=
  ∃ t : S4, t.H = H' ∧ MemOk B t ∧ Ext B s t ∧ (∀ k, t.U k → s.U k ∨ (key ≤ k ∧ k < key + 16)) ∧ ∃ x, run = .ok x t.W ∧ RelV t v x
/-- Something is done. -/
def UnitOk (B : Nat) (s : S4) (run : Result Unit) (H' : HF) : Prop :=
  ∃ t : S4, t.H = H' ∧ MemOk B t ∧ Ext B s t ∧ (∀ k, t.U k → s.U k) ∧ run = .ok () t.W
theorem ValOk.same {B : Nat} {s : S4} (h : MemOk B s) {key : Nat} {run : Result Value} {v : V} {x : Value} (hr : run = .ok x s.W) (hv : RelV s v x) : ValOk B s key run v s.H :=
  ⟨s, rfl, h, Ext.refl B s, fun k hk => .inl hk, x, hr, hv⟩

theorem freeze_row {k : Nat} : ∀ (ks : List Nat) (H : HF), k ∉ ks → (H.freeze ks).row k = H.row k
  | [], _, _ => rfl
  | j :: ks, H, h => by
    have hk : k ≠ j := fun e => h (by simp [e])
    have hks : k ∉ ks := fun e => h (by simp [e])
    simp only [HF.freeze]
    split
    · rw [freeze_row ks _ hks]
      simp [HF.setRow, nbeq hk]
    · exact freeze_row ks _ hks
theorem freeze_var : ∀ (ks : List Nat) (H : HF), (H.freeze ks).var = H.var
  | [], _ => rfl
  | j :: ks, H => by
    simp only [HF.freeze]
    split
    · rw [freeze_var ks]; rfl
    · exact freeze_var ks _
theorem freeze_nx : ∀ (ks : List Nat) (H : HF), (H.freeze ks).nx = H.nx
  | [], _ => rfl
  | j :: ks, H => by
    simp only [HF.freeze]
    split
    · rw [freeze_nx ks]; rfl
    · exact freeze_nx ks _

theorem cell_not {v : V} (h : v.cell = true) : v ≠ .undef ∧ ∀ w, v ≠ .tup w := by
  constructor
  · rintro rfl; cases h
  · rintro w rfl; cases h

/-! ### store -/
theorem storeV_ok {P : Program} {E : TE} (hE : TEok P E) {B : Nat} {s : S4} (h : MemOk B s) {t : Nat} {v p v' : V} {H' : HF} {x y : Value} (hx : RelV s p x) (hy : RelV s v y) (hto : (storeV E s.H t v p).to v' H') :
    v' = .undef ∧ UnitOk B s ((Instr.storeAt t x y).run P s.W) H' := by
  unfold storeV at hto
  split at hto
  · rename_i k pth
    split at hto
    · rename_i c hc
      split at hto
      · rename_i old hold
        split at hto
        · rename_i n g hs
          split at hto
          · rename_i hq
            split at hto
            · rename_i c' hset
              obtain ⟨rfl, rfl⟩ := hto
              simp only [Bool.and_eq_true] at hq
              obtain ⟨⟨hn, hsk⟩, hcell⟩ := hq
              have hn := nat_beq hn
              have hsk := of_decide_eq_true hsk
              obtain ⟨o, cs, t', rfl, ho, hb, hr⟩ := pvar_at h hx hc
              obtain ⟨g1, g2⟩ := get_rel hold hr ho
              obtain ⟨vs, hv, hval⟩ := hy.get (cell_not hcell).1 (cell_not hcell).2
              obtain ⟨hf, hf1⟩ := hE.sz t n g hs
              rw [← hsk] at g1
              have hdo := dcode_off g1 ho
              have hlen := hr.len
              have hvl := hv.len
              unfold V.size at hlen hvl hn
              obtain ⟨W', hrun, hw⟩ := run_storeVar (P := P) hf hb hval hv.one (by rw [hvl]; exact hn) (o := o) (by simp at hlen; omega)
              obtain ⟨s1, s2⟩ := set_rel hset hr hv ho g1
              refine ⟨rfl, s.putVar W' k c', rfl, memOk_putVar h hc s1 hw (by simpa using s2), ext_putVar h hc s1 hw, fun _ hk => hk, ?_⟩
              simp only [Instr.storeAt, Sem.run_bind, run_sureAddr, Result.andThen_ok]
              exact hrun
            · cases hto
          · cases hto
        · cases hto
      · cases hto
    · cases hto
  · rename_i k i pth
    split at hto
    · rename_i r hr
      split at hto
      · rename_i hrw
        split at hto
        · rename_i u hd
          split at hto
          · rename_i n g hs
            split at hto
            · rename_i hq
              split at hto
              · rename_i yy hdeep
                split at hto
                · rename_i z hset
                  split at hto
                  · cases hto
                  · rename_i hnot
                    obtain ⟨rfl, rfl⟩ := hto
                    simp only [Bool.and_eq_true] at hq
                    have hn1 := nat_beq hq.1
                    have hn2 := nat_beq hq.2
                    have hk : k ∉ v.rows := by
                      intro hk
                      simp [hk] at hnot
                    have hvn : v ≠ .undef ∧ ∀ w, v ≠ .tup w := by
                      constructor
                      · rintro rfl; cases u <;> simp [deepen] at hdeep
                      · rintro w rfl; cases u <;> simp [deepen] at hdeep
                    obtain ⟨vs, hv, hval⟩ := hy.get hvn.1 hvn.2
                    have hdr := deepen_rel h hdeep hv
                    obtain ⟨t1, e1, e2, e3, e4, e5, e6, e7⟩ := freeze_ok (B := B) v.rows h
                    have hI : ∀ b, Iv s v b → t1.I b := by
                      rintro b (hb | ⟨j, r', base, hj, hr', hp⟩)
                      · exact e6.i b hb
                      · exact e7 j hj r' b base hr' hp
                    have hx1 := hx.ext e6
                    have hr1 : t1.H.row k = some r := by rw [e1, freeze_row _ _ hk]; exact hr
                    obtain ⟨b, base, o, cur, t', c, rfl, hp, hi, ho, hb, hsz, hc, hcc⟩ := prow_at e5 hx1 hr1
                    have hdo := dcode_off hd ho
                    obtain ⟨hf, hf1⟩ := hE.sz t n g hs
                    have hvl := hv.len
                    have hzi : (i + 1) * r.u.size ≤ r.xs.length * r.u.size := Nat.mul_le_mul_right _ hi
                    rw [Nat.succ_mul] at hzi
                    have hin : base + i * r.u.size + o + n ≤ cur.size := by omega
                    obtain ⟨W', hrun, hw⟩ := run_storeVar (P := P) hf hb hval hv.one (by rw [hvl]; exact hn2) hin
                    have hlv : vs.length = u.size := by rw [hvl, hn2, ← hn1]
                    have hz := dset_rel hset hc (hdr.mono hI (fun b hb => by rw [e2])) hd ho
                    have hcl := hc.len
                    refine ⟨rfl, t1.putRow W' k ⟨r.u, r.xs.set i z, true⟩, by simp only [S4.putRow]; rw [e1], ?_, ?_, ?_, ?_⟩
                    · refine memOk_putRow e5 hr1 hrw hp (by simp) hw (fun j x hj => ?_)
                      have hjl : j < r.xs.length := by
                        have := (List.getElem?_eq_some_iff.1 hj).1
                        simpa using this
                      by_cases hij : j = i
                      · subst hij
                        rw [List.getElem?_set_self hjl] at hj
                        injection hj with hj
                        subst hj
                        refine ⟨_, hz, fun q w hw' => ?_⟩
                        rw [splice_get (by omega)] at hw'
                        have hq : q < c.length := by
                          by_cases h3 : o ≤ q ∧ q < o + vs.length
                          · omega
                          · rw [if_neg h3] at hw'
                            exact (List.getElem?_eq_some_iff.1 hw').1
                        rw [List.getElem?_toArray, splice_get (by simp; omega)]
                        by_cases h3 : o ≤ q ∧ q < o + vs.length
                        · rw [if_pos h3] at hw'
                          rw [if_pos (by omega)]
                          rw [show base + j * r.u.size + q - (base + j * r.u.size + o) = q - o by omega]
                          exact hw'
                        · rw [if_neg h3] at hw'
                          rw [if_neg (by omega)]
                          have := hcc q w hw'
                          simpa using this
                      · rw [List.getElem?_set_ne (Ne.symm hij)] at hj
                        obtain ⟨_, _, h3⟩ := e5.row k r hr1
                        rcases h3 with h3 | ⟨b', base', cur', t2, g1, g2, _, _, g5, g6⟩
                        · rw [h3.2] at hp; cases hp
                        rw [hp] at g1
                        injection g1 with g1
                        injection g1 with g1 g1'
                        subst g1 g1'
                        rw [hb] at g2
                        injection g2 with g2
                        injection g2 with g2 _
                        subst g2
                        obtain ⟨c2, hc2, hcc2⟩ := g6 j x hj
                        refine ⟨c2, hc2, fun q w hw' => ?_⟩
                        have hq : q < r.u.size := by
                          have := (List.getElem?_eq_some_iff.1 hw').1
                          rw [hc2.len] at this
                          exact this
                        have := hcc2 q w hw'
                        rw [List.getElem?_toArray, splice_get (by simp; omega), if_neg]
                        · simpa using this
                        · rintro ⟨q1, q2⟩
                          rcases Nat.lt_or_gt_of_ne hij with hlt | hlt
                          · have : (j + 1) * r.u.size ≤ i * r.u.size := Nat.mul_le_mul_right _ hlt
                            rw [Nat.succ_mul] at this
                            omega
                          · have : (i + 1) * r.u.size ≤ j * r.u.size := Nat.mul_le_mul_right _ hlt
                            rw [Nat.succ_mul] at this
                            omega
                    · exact e6.trans (ext_putRow e5 hr1 hrw hp (by simp) hw)
                    · intro j hj
                      have : t1.U j := hj
                      rw [e3] at this
                      exact this
                    · simp only [Instr.storeAt, Sem.run_bind, run_sureAddr, Result.andThen_ok]
                      rw [← e2]
                      exact hrun
                · cases hto
              · cases hto
            · cases hto
          · cases hto
        · cases hto
      · cases hto
    · cases hto
  · cases hto
end Go.Proofs.YtdfhopakojmjkaaDoor.Den
