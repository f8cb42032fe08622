/- Pure laws. -/
import Derived.Test.YtkjpakaidjpjgaaGreatDoorDfnP4
import Derived.Test.YtkjpakaidjpjgaaGreatDoorDfnP3
/- The pure law MutKeeps. -/
namespace Go.Proofs.YtkjpakaidjpjgaaGreatDoor.Dfn
open Go
set_option linter.unusedVariables false
set_option linter.unusedSimpArgs false
set_option maxRecDepth 100000
theorem SL.want {w : WrldT} (S : SL w) : SL (wantW w) := ⟨S.hw, S.hs, S.ml, S.st, S.gl, S.bl, S.il, S.rl, S.rp⟩
theorem SL.heap {w : WrldT} (S : SL w) {h : Heap} (h1 : h.1.length = w.2.1.1.length) (h2 : h.2.1.length = w.2.1.2.1.length) : SL (heapW w h) :=
 ⟨by show h.1.length ≤ 1000; rw [h1]; exact S.hw, by show h.2.1.length ≤ 1000; rw [h2]; exact S.hs, S.ml, S.st, S.gl, S.bl, S.il, S.rl, S.rp⟩
theorem SL.swp {w : WrldT} (S : SL w) (q : HP w.2.1) : SL (swpW w).1 := by
 obtain ⟨h1, h2⟩ := swpH_len q (cachesW w.2.2.1)
 unfold swpW
 split
 ·split
  ·exact ⟨by rw [h2]; exact S.hw, by rw [h1]; exact S.hs, S.ml, S.st, S.gl, S.bl, S.il, S.rl, S.rp⟩
  ·exact ⟨by rw [h2]; exact S.hw, by rw [h1]; exact S.hs, S.ml, S.st, S.gl, S.bl, S.il, S.rl, S.rp⟩
 ·exact S
theorem SL.note {w : WrldT} (S : SL w) {k : Nat} (T : TrnF w k) (v : Val) : SL (noteW w k v) := by
 unfold noteW
 split
 ·rename_i p1
  obtain ⟨M, hb⟩ := T.mkp p1
  have M' := nt_mk T.p.f hb v M
  have hl : (nt w.2.1 w.2.2.2.1 k v).1.1.length = w.2.1.1.length ∧ (nt w.2.1 w.2.2.2.1 k v).1.2.1.length = w.2.1.2.1.length := by
   have : (nt w.2.1 w.2.2.2.1 k v).1 = pn w.2.1 (one v) := sh_heap T.p.f _ v
   rw [this]
   exact ⟨pn_len _ _, rfl⟩
  have g0 := M'.g.len
  have g1 := M'.g.r16
  have b0 := M'.bl
  have r0 := M'.rl
  refine ⟨by show (nt _ _ _ _).1.1.length ≤ _; rw [hl.1]; exact S.hw, by show (nt _ _ _ _).1.2.1.length ≤ _; rw [hl.2]; exact S.hs, S.ml, S.st, ?_, ?_, fun g hg => ?_, ?_, S.rp⟩
  ·show (nt _ _ _ _).2.1.2.1.length ≤ 1000
   omega
  ·show (nt _ _ _ _).2.2.1.length ≤ 1000
   omega
  ·have := (M'.b g hg).len
   have := (M'.b g hg).r16
   omega
  ·show (nt _ _ _ _).2.2.2.1.length ≤ 1000
   omega
 ·exact S
theorem setO_len (h : Heap) (a i : Int) (v : Val) : (setO h a i v).1.length = h.1.length ∧ (setO h a i v).2.1.length = h.2.1.length := by
 unfold setO
 split
 ·exact ⟨List.length_set, rfl⟩
 ·exact ⟨rfl, rfl⟩
theorem SL.turn {w : WrldT} (S : SL w) {k : Nat} (T : TrnF w k) (h9 : (curM w k).1.length ≤ 900) (o : OpT) : SL (turnW w k o).1 := by
 have hp : ∀ r v, (psh (curM w k).1 r v).length ≤ 1000 := fun r v => by have := psh_len (curM w k).1 r v; omega
 have ht : ∀ n, ((curM w k).1.take n).length ≤ 1000 := fun n => by rw [List.length_take]; omega
 have h0 : (curM w k).1.length ≤ 1000 := by omega
 unfold turnW
 split
 ·split
  ·exact S.put h0
  ·unfold begW
   repeat' split
   ·exact S.put (hp _ _)
   ·exact S.put (hp _ _)
   ·exact S.put (ht _)
   ·exact S.want.put h0
   ·exact (S.swp T.p).put h0
   ·exact S.put h0
   ·exact (S.note T _).put h0
 ·split
  ·unfold takW
   split
   ·refine (S.heap ?_ ?_).put h0
    ·rcases (take_V T.p T.h4 (by rw [cachesW_len]; exact T.ml) T.rt (by rw [cachesW_len]; exact T.k_) (curM w k).2.2.1.2.1).2.2 with e | ⟨j, p, i, t, e⟩
     ·rw [e]
     ·rw [e]
      exact (taken_word t).1
    ·rcases (take_V T.p T.h4 (by rw [cachesW_len]; exact T.ml) T.rt (by rw [cachesW_len]; exact T.k_) (curM w k).2.2.1.2.1).2.2 with e | ⟨j, p, i, t, e⟩
     ·rw [e]
     ·rw [e]
      exact taken_len t
   ·split
    ·exact S.swp T.p
    ·exact S.want.put h0
  ·split
   ·exact S.put (hp _ _)
   ·split
    ·exact S.put (hp _ _)
    ·exact (S.heap (setO_len _ _ _ _).1 (setO_len _ _ _ _).2).put h0
theorem mutKeeps_pure : ∀ x, Good (.cons cWrld (.cons cI (.cons (.cons cI (.cons cI cVal)) .nil))) x → w21_MutKeeps x = some (true, ()) := by
 rintro ⟨(w : WrldT), (a : Int), (o : OpT), ⟨⟩⟩ ⟨gw, ga, go, -⟩
 have gw : Good cWrld w := gw
 obtain ⟨x1, e1, h1⟩ := fits21_eq gw a
 simp only [w21_MutKeeps, w21_MutKeeps_r, awake21, e1, Option.bind_some, Bool.not_true, cond_false]
 cases x1 with
 | false => rfl
 | true =>
  obtain ⟨⟨W, hf⟩, hy, a0, a1⟩ := h1 rfl
  obtain ⟨k, rfl⟩ := Int.eq_ofNat_of_zero_le a0
  have hk : k < w.2.2.1.length := by omega
  have T := TrnF.of gw W hf hy hk
  have S := W.sl
  have h9 : (curM w k).1.length ≤ 900 := by have := W.q.g.ms.st _ (curM_mem hk); omega
  have S2 := S.turn T h9 o
  have ew : ((w.1, (w.2.1.1, w.2.1.2.1, w.2.1.2.2), w.2.2.1, ((w.2.2.2.1.1.1, w.2.2.2.1.1.2.1, w.2.2.2.1.1.2.2), w.2.2.2.1.2.1, w.2.2.2.1.2.2.1, w.2.2.2.1.2.2.2), w.2.2.2.2.1, w.2.2.2.2.2.1, w.2.2.2.2.2.2.1, w.2.2.2.2.2.2.2.1, w.2.2.2.2.2.2.2.2) : WrldT) = w := rfl
  obtain ⟨r, hr⟩ : ∃ r, turnW w k o = r := ⟨_, rfl⟩
  have e2 := mutTurn_eq T o
  have e3 := turn21_eq T o
  rw [hr] at S2 e2 e3
  have er : ((r.1.1, r.1.2.1, r.1.2.2.1, r.1.2.2.2) : WrldT) = r.1 := rfl
  simp only [Bool.not_true, cond_false, copied20_eq S, Option.bind_some, ew, e2, same20_self S, e3, er, same20_self S2, cond_true, beq_self_eq_true, Bool.and_self, Bool.and_true]
end Go.Proofs.YtkjpakaidjpjgaaGreatDoor.Dfn
