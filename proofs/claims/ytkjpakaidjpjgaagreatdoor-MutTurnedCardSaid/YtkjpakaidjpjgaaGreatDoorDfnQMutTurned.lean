/- Pure laws. -/
import Derived.Test.YtkjpakaidjpjgaaGreatDoorDfnP4
/- The pure law MutTurned. -/
namespace Go.Proofs.YtkjpakaidjpjgaaGreatDoor.Dfn
open Go
set_option linter.unusedVariables false
set_option linter.unusedSimpArgs false
set_option maxRecDepth 100000
theorem awake21 : w21_awake () = some (true, ()) := by kernel_rfl
theorem mem_held {w : WrldT} {m : MutT} (hm : m ∈ w.2.2.1) {v : Val} (hv : v ∈ m.1) : v ∈ heldL w.2.2.1 := by
 unfold heldL
 exact List.mem_flatMap.2 ⟨m, hm, List.mem_append_left _ hv⟩
theorem fits21_eq {w : WrldT} (gw : Good cWrld w) (k : Int) : ∃ b, w21_fits (w, k, ()) = some (b, ()) ∧ (b = true → (WF w ∧ formW w = true) ∧ rdyW w = true ∧ 0 ≤ k ∧ k < w.2.2.1.length) := by
 obtain ⟨b, eb, hb⟩ := few20_eq gw
 simp only [w21_fits, w21_fits_r, eb, Option.bind_some]
 cases b with
 | false => exact ⟨false, rfl, fun h => by cases h⟩
 | true =>
  obtain ⟨q, hw, hr⟩ := hb rfl
  simp only [cond_true, form20_eq q.g, Option.bind_some, ready21_eq (w := w) (by have := q.g.ms.len; omega), Bool.cond_decide]
  cases hf : formW w with
  | false => exact ⟨false, rfl, fun h => by cases h⟩
  | true =>
   cases hy : rdyW w with
   | false => exact ⟨false, rfl, fun h => by cases h⟩
   | true =>
    simp only [cond_true]
    by_cases c : k ≥ 0
    ·rw [if_pos c]
     exact ⟨_, rfl, fun h => ⟨⟨wf_of gw q hw hr hf, trivial⟩, trivial, c, of_decide_eq_true h⟩⟩
    ·rw [if_neg c]
     exact ⟨false, rfl, fun h => by cases h⟩
theorem curM_mem {w : WrldT} {k : Nat} (hk : k < w.2.2.1.length) : curM w k ∈ w.2.2.1 := by
 unfold curM
 rw [get_d _ _ _ hk]
 exact List.getElem_mem _
theorem TrnF.of {w : WrldT} (gw : Good cWrld w) (W : WF w) (hf : formW w = true) (hy : rdyW w = true) {k : Nat} (hk : k < w.2.2.1.length) : TrnF w k := by
 have hm := curM_mem hk
 have M := W.q.g.ms
 have hf2 := hf
 unfold formW at hf2
 simp only [Bool.and_eq_true, decide_eq_true_eq] at hf2
 have hr := rdy_iff.1 (List.all_eq_true.1 hy _ hm)
 have g := gw.2.2.1.2 _ hm
 refine ⟨W.p, by have := M.len; omega, fun m h => by have := M.st m h; omega, W.h4, hf2.2.2.2.2.2.2.1, hk, ⟨by have := M.st _ hm; omega, fun v hv => W.q.hv v (mem_held hm hv)⟩, M.obj _ hm, fun _ => g.2.2.2.2.1.2.1.2, fun e => ⟨W.hm e, ?_⟩, ⟨hr.1, hr.2.1⟩⟩
 have h2 := hf2.2.2.2.2.2.2.2
 unfold mkB at h2
 rw [if_pos e] at h2
 simp only [Bool.and_eq_true, decide_eq_true_eq] at h2
 omega
def qEnd (m : MutT) (st : List Val) (e : Int) (v : Val) : MutT × Int × Int × Val × Unit := (restM m st, 2, e, v, ())
def qM (c : Conf) (h : Heap) (m : MutT) (o : OpT) : MutT × Int × Int × Val × Unit :=
 if m.2.1 = 0 then
  if ck h m.1 c.2.2.1 o ≠ 0 then qEnd m m.1 (ck h m.1 c.2.2.1 o) (0, 0, ())
  else if o.1 = 3 then qEnd m (psh m.1 c.2.2.1 (sat m.1 o.2.1)) 0 (sat m.1 o.2.1)
  else if o.1 = 4 then qEnd m (psh m.1 c.2.2.1 (1, o.2.1, ())) 0 (1, o.2.1, ())
  else if o.1 = 5 then qEnd m (m.1.take (m.1.length - 1)) 0 (0, 0, ())
  else ((m.1, 3, o, m.2.2.2.1, fldV h (oat m.1 o.2.1) o.2.2.1, m.2.2.2.2.2), 1, 0, (0, 0, ()), ())
 else if m.2.1 = 2 then qEnd m (psh m.1 c.2.2.1 (2, m.2.2.2.1, ())) 0 (2, m.2.2.2.1, ())
 else qEnd m (psh m.1 c.2.2.1 m.2.2.2.2.1) 0 m.2.2.2.2.1
def quietP (m : MutT) (o : OpT) : Prop := (m.2.1 = 0 ∧ (o.1 = 1 ∨ o.1 = 3 ∨ o.1 = 4 ∨ o.1 = 5)) ∨ m.2.1 = 2 ∨ m.2.1 = 3
theorem quiet_eq (m : MutT) (o : OpT) : ∃ b, w21_quiet (m, o, ()) = some (b, ()) ∧ (b = true → quietP m o) := by
 simp only [w21_quiet, w21_quiet_r, ibeq, Bool.cond_decide]
 by_cases s0 : m.2.1 = 0
 ·rw [if_pos s0]
  by_cases k1 : o.1 = 1
  ·rw [if_pos k1]; exact ⟨_, rfl, fun _ => .inl ⟨s0, .inl k1⟩⟩
  rw [if_neg k1]
  by_cases k3 : o.1 = 3
  ·rw [if_pos k3]; exact ⟨_, rfl, fun _ => .inl ⟨s0, .inr (.inl k3)⟩⟩
  rw [if_neg k3]
  by_cases k4 : o.1 = 4
  ·rw [if_pos k4]; exact ⟨_, rfl, fun _ => .inl ⟨s0, .inr (.inr (.inl k4))⟩⟩
  rw [if_neg k4]
  exact ⟨_, rfl, fun h => .inl ⟨s0, .inr (.inr (.inr (of_decide_eq_true h)))⟩⟩
 rw [if_neg s0]
 by_cases s2 : m.2.1 = 2
 ·rw [if_pos s2]; exact ⟨_, rfl, fun _ => .inr (.inl s2)⟩
 rw [if_neg s2]
 exact ⟨_, rfl, fun h => .inr (.inr (of_decide_eq_true h))⟩
theorem turn_quiet {w : WrldT} {k : Nat} {o : OpT} (q : quietP (curM w k) o) : turnW w k o = (putM w k (qM w.1 w.2.1 (curM w k) o).1, ((k : Int), (qM w.1 w.2.1 (curM w k) o).2), ()) := by
 unfold turnW qM
 rcases q with ⟨s0, hk⟩ | s2 | s3
 ·rw [if_pos s0, if_pos s0]
  by_cases c : ck w.2.1 (curM w k).1 w.1.2.2.1 o ≠ 0
  ·rw [if_pos c, if_pos c]; rfl
  rw [if_neg c, if_neg c]
  unfold begW
  rcases hk with e | e | e | e
  ·rw [if_neg (show ¬ o.1 = 3 by omega), if_neg (show ¬ o.1 = 3 by omega), if_neg (show ¬ o.1 = 4 by omega), if_neg (show ¬ o.1 = 4 by omega), if_neg (show ¬ o.1 = 5 by omega), if_neg (show ¬ o.1 = 5 by omega), if_neg (show ¬ o.1 = 6 by omega), if_neg (show ¬ o.1 = 0 by omega), if_pos e]; rfl
  ·rw [if_pos e, if_pos e]; rfl
  ·rw [if_neg (show ¬ o.1 = 3 by omega), if_neg (show ¬ o.1 = 3 by omega), if_pos e, if_pos e]; rfl
  ·rw [if_neg (show ¬ o.1 = 3 by omega), if_neg (show ¬ o.1 = 3 by omega), if_neg (show ¬ o.1 = 4 by omega), if_neg (show ¬ o.1 = 4 by omega), if_pos e, if_pos e]; rfl
 ·rw [if_neg (show ¬ (curM w k).2.1 = 0 by omega), if_neg (show ¬ (curM w k).2.1 = 0 by omega), if_neg (show ¬ (curM w k).2.1 = 1 by omega), if_pos s2, if_pos s2]; rfl
 ·rw [if_neg (show ¬ (curM w k).2.1 = 0 by omega), if_neg (show ¬ (curM w k).2.1 = 0 by omega), if_neg (show ¬ (curM w k).2.1 = 1 by omega), if_neg (show ¬ (curM w k).2.1 = 2 by omega), if_neg (show ¬ (curM w k).2.1 = 2 by omega), if_pos s3]; rfl
theorem psh_len (st : List Val) (r : Int) (v : Val) : (psh st r v).length ≤ st.length + 1 := by
 unfold psh
 split
 ·omega
 ·rw [List.length_append, List.length_singleton]; omega
theorem qM_len (c : Conf) (h : Heap) (m : MutT) (o : OpT) : (qM c h m o).1.1.length ≤ m.1.length + 1 := by
 unfold qM
 repeat' split
 all_goals first
  | exact psh_len _ _ _
  | (show (List.take _ _).length ≤ _; rw [List.length_take]; omega)
  | exact Nat.le_succ _
theorem qM_cache (c : Conf) (h : Heap) (m : MutT) (o : OpT) : (qM c h m o).1.2.2.2.2.2.1 = m.2.2.2.2.2.1 := by
 unfold qM
 repeat' split
 all_goals rfl
theorem caches_set {ms : List MutT} {k : Nat} {m : MutT} (e : m.2.2.2.2.2.1 = (ms.getD k mz).2.2.2.2.2.1) : cachesW (ms.set k m) = cachesW ms := by
 unfold cachesW
 rw [List.map_set]
 by_cases hk : k < ms.length
 ·rw [get_d _ _ _ hk] at e
  rw [e]
  have := @List.set_getElem_self _ (ms.map fun m => m.2.2.2.2.2.1) k (by rw [List.length_map]; exact hk)
  rw [List.getElem_map] at this
  exact this
 ·rw [List.set_eq_of_length_le (by rw [List.length_map]; omega)]
theorem cur_put {w : WrldT} {a b : Nat} (m : MutT) (hab : a ≠ b) : curM (putM w a m) b = curM w b := by
 unfold curM putM
 exact getD_set_ne hab _ _
theorem TrnF.put {w : WrldT} {a b : Nat} (T : TrnF w b) (Ta : TrnF w a) {m : MutT} (hab : a ≠ b) (hm : m.1.length ≤ 1000) (hc : m.2.2.2.2.2.1 = (curM w a).2.2.2.2.2.1) : TrnF (putM w a m) b := by
 have e := cur_put (w := w) m hab
 have ec : cachesW (putM w a m).2.2.1 = cachesW w.2.2.1 := caches_set hc
 refine ⟨T.p, ?_, fun x hx => ?_, by rw [ec]; exact T.h4, by rw [ec]; exact T.rt, ?_, by rw [e]; exact T.sp, by rw [e]; exact T.ob, by rw [e]; exact T.vl, T.mkp, by rw [e]; exact T.sd⟩
 ·show (List.set _ _ _).length ≤ _
  rw [List.length_set]
  exact T.ml
 ·rcases List.mem_or_eq_of_mem_set (show x ∈ w.2.2.1.set a m from hx) with h | h
  ·exact T.st x h
  ·rw [h]; exact hm
 ·show _ < (List.set _ _ _).length
  rw [List.length_set]
  exact T.k_
theorem SL.put {w : WrldT} (S : SL w) {a : Nat} {m : MutT} (hm : m.1.length ≤ 1000) : SL (putM w a m) := by
 refine ⟨S.hw, S.hs, ?_, fun x hx => ?_, S.gl, S.bl, S.il, S.rl, S.rp⟩
 ·show (List.set _ _ _).length ≤ _
  rw [List.length_set]
  exact S.ml
 ·rcases List.mem_or_eq_of_mem_set (show x ∈ w.2.2.1.set a m from hx) with h | h
  ·exact S.st x h
  ·rw [h]; exact hm
theorem mutTurned_pure : ∀ x, Good (.cons cWrld (.cons cI (.cons cI (.cons (.cons cI (.cons cI cVal)) (.cons (.cons cI (.cons cI cVal)) .nil))))) x → w21_MutTurned x = some (true, ()) := by
 rintro ⟨(w : WrldT), (a : Int), (b : Int), (o : OpT), (p : OpT), ⟨⟩⟩ ⟨gw, ga, gb, go, gp, -⟩
 have gw : Good cWrld w := gw
 obtain ⟨x1, e1, h1⟩ := fits21_eq gw a
 obtain ⟨x2, e2, h2⟩ := fits21_eq gw b
 simp only [w21_MutTurned, w21_MutTurned_r, awake21, e1, e2, Option.bind_some, Bool.not_true, cond_false]
 cases x1 with
 | false => rfl
 | true =>
 cases x2 with
 | false => rfl
 | true =>
  obtain ⟨⟨W, hf⟩, hy, a0, a1⟩ := h1 rfl
  obtain ⟨-, -, b0, b1⟩ := h2 rfl
  obtain ⟨k, rfl⟩ := Int.eq_ofNat_of_zero_le a0
  obtain ⟨j, rfl⟩ := Int.eq_ofNat_of_zero_le b0
  have hk : k < w.2.2.1.length := by omega
  have hj : j < w.2.2.1.length := by omega
  simp only [Bool.not_true, cond_false, ibeq, ibne, Bool.cond_decide, if_pos a0, if_pos a1, if_pos b0, if_pos b1, Int.toNat_natCast, show (([] : List Val), (0 : Int), ((0 : Int), (0 : Int), (0 : Int), (0 : Int), ()), (0 : Int), ((0 : Int), (0 : Int), ()), List.replicate 4 (0 : Int), ()) = mz from rfl, show w.2.2.1.getD k mz = curM w k from rfl, show w.2.2.1.getD j mz = curM w j from rfl]
  by_cases hab : (k : Int) = (j : Int)
  ·rw [if_pos hab]
  rw [if_neg hab]
  have hne : k ≠ j := fun e => hab (by rw [e])
  obtain ⟨y1, f1, g1⟩ := quiet_eq (curM w k) o
  obtain ⟨y2, f2, g2⟩ := quiet_eq (curM w j) p
  rw [f1]
  cases y1 with
  | false => rfl
  | true =>
  simp only [Option.bind_some, Bool.not_true, cond_false, f2]
  cases y2 with
  | false => rfl
  | true =>
  have Tk := TrnF.of gw W hf hy hk
  have Tj := TrnF.of gw W hf hy hj
  have Q1 := g1 rfl
  have Q2 := g2 rfl
  have l1 : (qM w.1 w.2.1 (curM w k) o).1.1.length ≤ 1000 := by
   have := qM_len w.1 w.2.1 (curM w k) o
   have := W.q.g.ms.st _ (curM_mem hk)
   omega
  have l2 : (qM w.1 w.2.1 (curM w j) p).1.1.length ≤ 1000 := by
   have := qM_len w.1 w.2.1 (curM w j) p
   have := W.q.g.ms.st _ (curM_mem hj)
   omega
  have t1 := mutTurn_eq Tk o
  have t2 := mutTurn_eq Tj p
  rw [turn_quiet Q1] at t1
  rw [turn_quiet Q2] at t2
  have T1 : TrnF (putM w k (qM w.1 w.2.1 (curM w k) o).1) j := Tj.put Tk hne l1 (qM_cache _ _ _ _)
  have T2 : TrnF (putM w j (qM w.1 w.2.1 (curM w j) p).1) k := Tk.put Tj hne.symm l2 (qM_cache _ _ _ _)
  have c1 := cur_put (w := w) (qM w.1 w.2.1 (curM w k) o).1 hne
  have c2 := cur_put (w := w) (qM w.1 w.2.1 (curM w j) p).1 hne.symm
  have t3 := mutTurn_eq T1 p
  have t4 := mutTurn_eq T2 o
  rw [turn_quiet (by rw [c1]; exact Q2), c1] at t3
  rw [turn_quiet (by rw [c2]; exact Q1), c2] at t4
  have hcomm : putM (putM w k (qM w.1 w.2.1 (curM w k) o).1) j (qM w.1 w.2.1 (curM w j) p).1 = putM (putM w j (qM w.1 w.2.1 (curM w j) p).1) k (qM w.1 w.2.1 (curM w k) o).1 := by
   unfold putM
   show (w.1, w.2.1, (w.2.2.1.set k _).set j _, w.2.2.2) = (w.1, w.2.1, (w.2.2.1.set j _).set k _, w.2.2.2)
   rw [List.set_comm _ _ hne]
  have S := (W.sl.put (a := k) l1).put (a := j) l2
  have hs := same20_self S
  obtain ⟨m1, hm1⟩ : ∃ m1, (qM w.1 w.2.1 (curM w k) o).1 = m1 := ⟨_, rfl⟩
  obtain ⟨m2, hm2⟩ : ∃ m2, (qM w.1 w.2.1 (curM w j) p).1 = m2 := ⟨_, rfl⟩
  obtain ⟨v1, hv1⟩ : ∃ v1, (qM w.1 w.2.1 (curM w k) o).2 = v1 := ⟨_, rfl⟩
  obtain ⟨v2, hv2⟩ : ∃ v2, (qM w.1 w.2.1 (curM w j) p).2 = v2 := ⟨_, rfl⟩
  have u1 : (putM w k m1).1 = w.1 := rfl
  have u2 : (putM w j m2).1 = w.1 := rfl
  have u3 : (putM w k m1).2.1 = w.2.1 := rfl
  have u4 : (putM w j m2).2.1 = w.2.1 := rfl
  rw [hm1, hv1] at t1
  rw [hm2, hv2] at t2
  rw [hm1, u1, u3, hm2, hv2] at t3
  rw [hm2, u2, u4, hm1, hv1, ← hm1, ← hm2, ← hcomm, hm1, hm2] at t4
  rw [hm1, hm2] at hs
  have w1 : ((putM w k m1).1, (putM w k m1).2.1, (putM w k m1).2.2.1, (putM w k m1).2.2.2) = putM w k m1 := rfl
  have w2 : ((putM w j m2).1, (putM w j m2).2.1, (putM w j m2).2.2.1, (putM w j m2).2.2.2) = putM w j m2 := rfl
  have w3 : ((putM (putM w k m1) j m2).1, (putM (putM w k m1) j m2).2.1, (putM (putM w k m1) j m2).2.2.1, (putM (putM w k m1) j m2).2.2.2) = putM (putM w k m1) j m2 := rfl
  have n1 : ((putM w k m1).2.2.1.length : Int) = (w.2.2.1.length : Int) := by
   show ((List.set _ _ _).length : Int) = _
   rw [List.length_set]
  have n2 : ((putM w j m2).2.2.1.length : Int) = (w.2.2.1.length : Int) := by
   show ((List.set _ _ _).length : Int) = _
   rw [List.length_set]
  simp only [Option.bind_some, Bool.not_true, cond_false, t1, n1, not_true, if_false, w1, t3, t2, n2, w2, t4, w3, hs, cond_true, beq_self_eq_true, decide_true, Bool.and_self, Bool.and_true]
end Go.Proofs.YtkjpakaidjpjgaaGreatDoor.Dfn
