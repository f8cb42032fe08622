/- slices.Clone: whether what is handed in is nil or not, its summary. -/
import Derived.Test.YtdokfjkihjkcmaaGreatDoorDenRun
namespace Go.Proofs.YtdokfjkihjkcmaaGreatDoor.Den
open Go Go.RowKit
set_option linter.unusedVariables false
set_option linter.unusedSectionVars false

/-- slices.Clone of what is read: a row of one's own. -/
def cloneF {α : Type} (bytes : Nat) (x : List α × Unit) : Option (List α × Unit) := bif decide (x.1.length * bytes ≤ 140737488355328) then some (x.1, ()) else none

def clA0 (t : Nat) : Oper := { dst := some 2, op := .assign (.const (.slice none 0 0)), type := t, pos := "slices.go:355", after := #[], guard := none }
def clA (t : Nat) : Array Oper := #[clA0 t]
def clB0 (t : Nat) : Oper := { dst := some 3, op := .move (.tmp 0), type := t, pos := "slices.go:357", after := #[], guard := none }
def clB1 (t tb : Nat) : Oper := { dst := some 4, op := .binOp .eql t (.tmp 3) (.const (.slice none 0 0)) t, type := tb, pos := "slices.go:357", after := #[{ on := 0, ground := .data }], guard := none }
def clB (t tb : Nat) : Array Oper := #[clB0 t, clB1 t tb]
def clC (t : Nat) : Code := .cond (.tmp 4) (.seq (.region 2 #[{ dst := some 2, op := .assign (.const (.slice none 0 0)), type := t, pos := "slices.go:358", after := #[], guard := none }] false) .ret) .skip
def clD (t : Nat) : Code := .seq (.region 3 #[{ dst := some 5, op := .buildSlice t 0 #[], type := t, pos := "slices.go:362", after := #[], guard := none },
    { dst := some 6, op := .move (.tmp 0), type := t, pos := "slices.go:362", after := #[], guard := none },
    { dst := some 7, op := .call { callee := .builtin .append, args := #[.tmp 5, .tmp 6], argTypes := #[t, t] }, type := t, pos := "slices.go:362", after := #[{ on := 0, ground := .data }, { on := 1, ground := .data }], guard := none },
    { dst := some 2, op := .assign (.tmp 7), type := t, pos := "slices.go:362", after := #[{ on := 2, ground := .data }, { on := 2, ground := .chain }, { on := 0, ground := .phase }, { on := 1, ground := .phase }, { on := 2, ground := .phase }], guard := none }] false) .ret
def clBody (t tb : Nat) : Code := .seq (.region 0 (clA t) false) (.seq (.seq (.region 1 (clB t tb) false) (clC t)) (clD t))
def clT (u : U) (xs : List u.T) (b : Bool) : TF := putT 8 (putT 8 (putT 8 (argT (.cons (.d (.sl u) xs) .nil) 0) (some 2) .nilsl) (some 3) (.d (.sl u) xs)) (some 4) (.d .bool b)
def noInl : (β : Type) → FuncId → V → HF → (V → HF → Option β) → Option β := fun _ _ _ _ _ => none
/-- What comes behind the test. -/
noncomputable def clRest (E : TE) (t : Nat) (fn : Func) (u : U) (xs : List u.T) (b : Bool) : Option (List u.T × Unit) :=
  den E (fun _ => none) (noInl _) (fun _ _ => none) 8 0 0 (clC t) 0 (clT u xs b) H0 (seqK (fun T H => den E (fun _ => none) (noInl _) (fun _ _ => none) 8 0 0 (clD t) 0 T H (endK E fn (sendK (.cons (.own u) .nil)))) (endK E fn (sendK (.cons (.own u) .nil))))

theorem run_eql_nil {P : Program} (W : World) {t e : Nat} (ht : P.underlying t = some (.slice e)) (A : Option Addr) (n c : Nat) : (binOp .eql t (.slice A n c) (.slice none 0 0)).run P W = .ok (.bool A.isNone) W := by
  have h : ∀ d, (Op.equalIn (d + 1) t (.slice A n c) (.slice none 0 0)).run P W = .ok A.isNone W := by
    intro d
    cases A <;> simp [Op.equalIn, run_underlying ht]
  have := h 9999
  simp only [binOp]
  simp [Op.equal, Op.maxDepth, this]

theorem clone_sem {P : Program} {E : TE} (hE : TEok P E) {f : FuncId} {fn : Func} {t tb bytes : Nat} {u : U} (hf : P.funcs[f]? = some fn) (hname : (fn.name == "runtime.NumGoroutine") = false) (hbody : fn.body = some (clBody t tb)) (hnt : fn.ntmps = 8) (hel : E.elem t = some u)
    (h0 : (fun xs : List u.T => clRest E t fn u xs false) = fun xs => bif decide ((0 + xs.length) * bytes ≤ 140737488355328) then some (xs, ()) else none) (h1 : clRest E t fn u [] true = some ([], ())) :
    SemOf P f ⟨.cons (.sl u) .nil, .cons (.own u) .nil, cloneF bytes⟩ where
  enters := ⟨fn, hf, hname, by rw [hbody]; rfl⟩
  calls := fun W I hI hG x args r hargs hF => by
    obtain ⟨v, l, cs, rfl, hx, hv, hnil⟩ := hargs
    simp only [RelArgs] at hnil
    subst hnil
    obtain ⟨w, rfl, hsl⟩ := hx
    have hv : [w] = [v] := hv
    injection hv with hv
    subst hv
    have hsl' := hsl
    obtain ⟨A, cap, rfl, hcap, hcells⟩ := hsl
    obtain ⟨e, hte, _⟩ := hE.elem t u hel
    let s : S4 := { W := W, I := I, H := H0, ρ := { var := fun _ => 0, row := fun _ => none }, U := fun _ => False, cur := W.heap.size }
    have hm : MemOk W.heap.size s := ⟨hI, Nat.le_refl _, (fun k hk => hk.elim), (fun k c hc => by cases hc), (fun k r hr => by cases hr), (fun k l c c' _ hc => by cases hc), (fun k l r r' b b0 b1 _ hr => by cases hr), (fun k l c r b b0 hc => by cases hc), (fun k c hc => by cases hc), ⟨(fun k v r xs q ho hk => by cases hk), fun k i l j b ⟨_, _, _, _, _, hb, _⟩ => by cases hb⟩⟩
    have hrel : RelV s (.d (.sl u) x.1) (.slice A x.1.length cap) := .inr ⟨[.slice A x.1.length cap], relT_of (v := .d (.sl u) x.1) (by simp only [RelC, RelD]; exact ⟨_, rfl, hsl'⟩), rfl⟩
    have hxs : A.isNone = true → x.1 = [] := by
      intro hA
      cases hx : x.1 with
      | nil => rfl
      | cons y ys =>
        obtain ⟨ad, c, e1, _⟩ := hcells 0 y (by rw [hx]; rfl)
        rw [e1] at hA
        cases hA
    have heval : clRest E t fn u x.1 A.isNone = some r := by
      have hF : cloneF bytes x = some r := hF
      unfold cloneF at hF
      cases hb : A.isNone with
      | true =>
        have e := hxs hb
        rw [e] at hF ⊢
        rw [h1, ← hF]
        simp
      | false =>
        rw [congrFun h0 x.1, ← hF, Nat.zero_add]
    have henv : ∀ β, Env P E (fun _ => none) (noInl β) := fun β => ⟨hE, (fun f sm h => by cases h), ⟨(by intro f args B s l K r hK; simp [noInl] at hK), (by intro f vals ws B s l lr q args K r hK; simp [noInl] at hK)⟩⟩
    have hfr : Fr none W.heap.size s 8 (clT u x.1 A.isNone) (({ tmps := #[.slice A x.1.length cap] ++ Array.replicate (8 - 1) undef, defers := [] } : Act).put (some 2) (.slice none 0 0) |>.put (some 3) (.slice A x.1.length cap) |>.put (some 4) (.bool A.isNone)) s := by
      have t0 : TRel s (argT (.cons (.d (.sl u) x.1) .nil) 0) (#[Value.slice A x.1.length cap] ++ Array.replicate (8 - 1) undef) := by
        refine ⟨fun i => ?_, hG⟩
        cases i with
        | zero => exact hrel
        | succ i => exact relV_undef
      refine ⟨hm, Ext.refl _ s, ?_, Marks.nil _ _ _, by simp [Act.put], fun k hk => .inl hk⟩
      have t1 := trel_put (s := s) (a := { tmps := #[Value.slice A x.1.length cap] ++ Array.replicate (8 - 1) undef, defers := [] }) (dst := some 2) (v := .nilsl) (x := .slice none 0 0) (nt := 8) t0 (by simp) (.inr ⟨[.slice none 0 0], rfl, rfl⟩)
      have t2 := trel_put (dst := some 3) (nt := 8) t1 (by simp [Act.put]) hrel
      exact trel_put (dst := some 4) (nt := 8) t2 (by simp [Act.put]) bool_relV
    have fin : ∀ (Q : Exit → Act → World → Prop) (ex : Ex) (T : TF) (s1 : S4) (a1 : Act), Fr none W.heap.size s 8 T a1 s1 → endK E fn (sendK (.cons (.own u) .nil)) ex T s1.H = some r → (exOf ex = .normal ∨ exOf ex = .ret) ∧ ∃ v, resV E T s1.H fn.results.toList = some v ∧ sendK (.cons (.own u) .nil) v (healL s1.H v.rows) = some r := by
      intro Q ex T s1 a1 hfr1 hK
      cases ex with
      | normal =>
        simp only [endK] at hK
        split at hK
        · rename_i v hv
          exact ⟨.inl rfl, v, hv, hK⟩
        · cases hK
      | exit i => simp only [endK] at hK; cases hK
      | ret =>
        simp only [endK] at hK
        split at hK
        · rename_i v hv
          exact ⟨.inr rfl, v, hv, hK⟩
        · cases hK
    have hcalls : Calls P f #[.slice A x.1.length cap] W fun e W' => ∃ t' y, e = .returned y ∧ t'.W = W' ∧ MemOk W.heap.size t' ∧ Ext W.heap.size s t' ∧ (∀ k, t'.U k → s.U k ∨ s.H.nx ≤ k) ∧ ∃ v lv, RelVL t' v lv ∧ y = outValue lv ∧ sendK (.cons (.own u) .nil) v t'.H = some r := by
      refine FR_calls (ro := none) (callsIn_of_wp_marks (n := 0) hf hbody trivial ?_)
      rw [hnt]
      have post : ∀ (ex : Ex) (T : TF) (s1 : S4) (a1 : Act), Fr none W.heap.size s 8 T a1 s1 → endK E fn (sendK (.cons (.own u) .nil)) ex T s1.H = some r → bodyPostM (FR none) 0 P fn (fun e W' => ∃ t' y, e = .returned y ∧ t'.W = W' ∧ MemOk W.heap.size t' ∧ Ext W.heap.size s t' ∧ (∀ k, t'.U k → s.U k ∨ s.H.nx ≤ k) ∧ ∃ v lv, RelVL t' v lv ∧ y = outValue lv ∧ sendK (.cons (.own u) .nil) v t'.H = some r) (exOf ex) a1 s1.W := by
        intro ex T s1 a1 h1 hK
        obtain ⟨hex, v, hv, hs⟩ := fin (fun _ _ _ => True) ex T s1 a1 h1 hK
        obtain ⟨bs, hd, hnd, hbs⟩ := h1.d
        have g := leave_ok (P := P) hE hm (fn := fn) (tmps := a1.tmps) bs s1 h1.m h1.x h1.t h1.u hnd hbs hv hs
        rw [← hd] at g
        rcases hex with hex | hex <;> rw [hex] <;> exact g
      refine wpIn_seq (wpIn_region ?_)
      have eA : (clA t)[0]? = some (clA0 t) := rfl
      have eB0 : (clB t tb)[0]? = some (clB0 t) := rfl
      have eB1 : (clB t tb)[1]? = some (clB1 t tb) := rfl
      have w0 : ∀ y, Region.wanted (clA0 t) y = true := fun y => rfl
      have w1 : ∀ y, Region.wanted (clB0 t) y = true := fun y => rfl
      have w2 : ∀ y, Region.wanted (clB1 t tb) y = true := fun y => rfl
      have hop : ∀ a : Act, a.eval (.tmp 3) = .slice A x.1.length cap → (execOp a.eval (clB1 t tb)).run P W = .ok (.value (.bool A.isNone)) W := by
        intro a ha
        have hg : (eqGuard .eql t (.tmp 3) (.const (.slice none 0 0)) (.slice A x.1.length cap) (.slice none 0 0)).run P W = .ok () W := by
          simp [eqGuard]
        have hc : a.eval (.const (.slice none 0 0)) = .slice none 0 0 := rfl
        simp [clB1, execOp, ha, hc, hg, run_eql_nil W hte]
      show wpOpsIn (FR none) 0 P (clA t) _ [0] _ W
      rw [wpOpsIn_cons, wpOpIn, eA]
      simp only [w0, if_true]
      refine ⟨fun _ _ => trivial, ?_⟩
      rw [show (FR none).round = none from rfl, Oper.semAt_none]
      rw [show ∀ a : Act, (execOp a.eval (clA0 t)).run P W = .ok (.value (.slice none 0 0)) W from fun a => by simp [clA0, execOp]; rfl]
      rw [Oper.uponIn_value]
      simp only [wpOpsIn]
      show Code.wpIn (FR none) 0 P (.seq (.seq (.region 1 (clB t tb) false) (clC t)) (clD t)) _ _ W
      refine wpIn_seq (wpIn_seq (wpIn_region ?_))
      show wpOpsIn (FR none) 0 P (clB t tb) _ [0, 1] _ W
      rw [wpOpsIn_cons, wpOpIn, eB0]
      simp only [w1, if_true]
      refine ⟨fun _ _ => trivial, ?_⟩
      rw [show (FR none).round = none from rfl, Oper.semAt_none]
      rw [show ∀ a : Act, (execOp a.eval (clB0 t)).run P W = .ok (.value (a.eval (.tmp 0))) W from fun a => by simp [clB0, execOp]]
      rw [Oper.uponIn_value, wpOpsIn_cons, wpOpIn, eB1]
      simp only [w2, if_true]
      refine ⟨fun _ _ => trivial, ?_⟩
      rw [show (FR none).round = none from rfl, Oper.semAt_none]
      rw [hop _ (by rfl), Oper.uponIn_value]
      simp only [wpOpsIn]
      show Code.wpIn (FR none) 0 P (clC t) _ _ W
      have hden := den_ok henv hm (Nat.le_refl _) (fi := 0) (ro := none) (clC t) 0 (fun p hp => by simp [clC, loopsIn] at hp) (fun p hp => by simp [clC, rangesIn] at hp) _ _ _ s _ r hfr heval
      refine wpIn_mono hden ?_
      rintro e1 a1 W1 ⟨ex, T1, s1, rfl, rfl, hfr1, hK1⟩
      cases ex with
      | normal =>
        have hden2 := den_ok henv hm (Nat.le_refl _) (fi := 0) (ro := none) (clD t) 0 (fun p hp => by simp [clD, loopsIn] at hp) (fun p hp => by simp [clD, rangesIn] at hp) _ _ _ s1 _ r hfr1 hK1
        refine wpIn_mono hden2 ?_
        rintro e2 a2 W2 ⟨ex2, T2, s2, rfl, rfl, hfr2, hK2⟩
        exact post ex2 T2 s2 a2 hfr2 hK2
      | exit i => exact post (.exit i) T1 s1 a1 hfr1 hK1
      | ret => exact post .ret T1 s1 a1 hfr1 hK1
    refine hcalls.mono ?_
    rintro e2 W' ⟨t1, y, rfl, rfl, hmt, hxt, _, v, lv, hrel2, rfl, hsend⟩
    exact sent_ok hI hmt hxt hrel2 (by rfl) hsend
end Go.Proofs.YtdokfjkihjkcmaaGreatDoor.Den
