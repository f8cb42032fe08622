/- A region, operation by operation; blocks, loops: the walk. -/
import Derived.Test.YtdfhopakojmjkaaDoorDenP
namespace Go.Proofs.YtdfhopakojmjkaaDoor.Den
open Go Go.RowKit
set_option linter.unusedVariables false
set_option linter.unusedSectionVars false

/-! ### temporaries -/
theorem put_tmps (a : Act) (dst : Option Tmp) (v : Value) : (a.put dst v).defers = a.defers ∧ (a.put dst v).tmps.size = a.tmps.size := by
  cases dst with
  | none => exact ⟨rfl, rfl⟩
  | some d => exact ⟨rfl, by simp [Act.put]⟩
theorem trel_upd {s : S4} {T : TF} {tmps : Array Value} {d : Nat} {v : V} {x : Value} (h : TRel s T tmps) (hv : RelV s v x) (hd : d < tmps.size) : TRel s (upd T d v) (tmps.setIfInBounds d x) := by
  refine ⟨fun i => ?_, h.gl⟩
  unfold upd
  by_cases e : i = d
  · subst e
    simp [Array.getD_eq_getD_getElem?, hd]
    exact hv
  · simp [nbeq e, Array.getD_eq_getD_getElem?, Array.getElem?_setIfInBounds_ne (Ne.symm e)]
    have := h.tmp i
    rw [Array.getD_eq_getD_getElem?] at this
    exact this
theorem trel_put {s : S4} {T : TF} {a : Act} {dst : Option Tmp} {v : V} {x : Value} {nt : Nat} (h : TRel s T a.tmps) (hn : a.tmps.size = nt) (hv : RelV s v x) : TRel s (putT nt T dst v) (a.put dst x).tmps := by
  cases dst with
  | none => exact h
  | some d =>
    cases hb : Nat.blt d nt with
    | true =>
      have hd : d < a.tmps.size := by rw [hn]; simpa [Nat.blt_eq] using hb
      have e : putT nt T (some d) v = upd T d v := by simp only [putT, hb]; rfl
      rw [e]
      exact trel_upd h hv hd
    | false =>
      have hd : ¬ d < a.tmps.size := by
        rw [hn]
        intro hlt
        have : Nat.blt d nt = true := by simpa [Nat.blt_eq] using hlt
        rw [hb] at this
        cases this
      have e : putT nt T (some d) v = T := by simp only [putT, hb]; rfl
      rw [e]
      show TRel s T (a.tmps.setIfInBounds d x)
      rw [Array.setIfInBounds_eq_of_size_le (Nat.le_of_not_lt hd)]
      exact h
theorem trel_same {s : S4} {T : TF} {tmps : Array Value} {g : Nat} {b : Bool} (h : TRel s T tmps) (hg : T g = .d .bool b) : TRel s (upd T g (.d .bool b)) tmps := by
  refine ⟨fun i => ?_, h.gl⟩
  have : upd T g (.d .bool b) i = T i := by
    unfold upd
    by_cases e : i = g
    · subst e
      simp [hg]
    · simp [nbeq e]
  rw [this]
  exact h.tmp i

/-! ### functions run in place -/
/-- What is handed to a function that is run in place. -/
def InlOk {β : Type} (P : Program) (inl : FuncId → V → HF → (V → HF → Option β) → Option β) : Prop :=
  ∀ (f : FuncId) (args : V) (B : Nat) (s : S4) (l : List Value) (K : V → HF → Option β) (r : β), inl f args s.H K = some r → MemOk B s → GlobW s.W s.I → RelVL s args l →
    CallOk P B s f l.toArray fun t x => (∀ k, t.U k → s.U k ∨ s.H.nx ≤ k) ∧ ∃ v, RelV t v x ∧ K v t.H = some r

theorem app_rel {s : S4} : ∀ {a b : V} {l m : List Value}, RelVL s a l → RelVL s b m → RelVL s (appV a b) (l ++ m)
  | .cons a c, b, l, m, h1, h2 => by
    obtain ⟨x, r, rfl, g1, g2⟩ := h1
    exact ⟨x, r ++ m, rfl, g1, app_rel g2 h2⟩
  | .nil, b, l, m, h1, h2 => by
    simp only [RelVL] at h1
    subst h1
    exact h2
  | .d _ _, _, _, _, h1, _ => by simp only [RelVL] at h1
  | .nilsl, _, _, _, h1, _ => by simp only [RelVL] at h1
  | .dfull _ _, _, _, _, h1, _ => by simp only [RelVL] at h1
  | .row _, _, _, _, h1, _ => by simp only [RelVL] at h1
  | .rsub _ _ _, _, _, _, h1, _ => by simp only [RelVL] at h1
  | .pvar _ _, _, _, _, h1, _ => by simp only [RelVL] at h1
  | .prow _ _ _, _, _, _, h1, _ => by simp only [RelVL] at h1
  | .pdeep _ _, _, _, _, h1, _ => by simp only [RelVL] at h1
  | .fn _ _ _, _, _, _, h1, _ => by simp only [RelVL] at h1
  | .tup _, _, _, _, h1, _ => by simp only [RelVL] at h1
  | .undef, _, _, _, h1, _ => by simp only [RelVL] at h1
theorem relL_vl {s : S4} : ∀ {a : V} {l : List Value}, RelL s a l → RelVL s a l
  | .cons a b, l, h => by
    simp only [RelL] at h
    obtain ⟨v, r, cs, rfl, h1, h2, h3⟩ := h
    exact ⟨v, r, rfl, .inr ⟨cs, h1, h2⟩, relL_vl h3⟩
  | .nil, l, h => by simp only [RelL] at h; exact h
  | .d _ _, _, h => by simp only [RelL] at h
  | .nilsl, _, h => by simp only [RelL] at h
  | .dfull _ _, _, h => by simp only [RelL] at h
  | .row _, _, h => by simp only [RelL] at h
  | .rsub _ _ _, _, h => by simp only [RelL] at h
  | .pvar _ _, _, h => by simp only [RelL] at h
  | .prow _ _ _, _, h => by simp only [RelL] at h
  | .pdeep _ _, _, h => by simp only [RelL] at h
  | .fn _ _ _, _, h => by simp only [RelL] at h
  | .tup _, _, h => by simp only [RelL] at h
  | .undef, _, h => by simp only [RelL] at h
/-- No tuple is handed in. -/
theorem RelV.to1 {s : S4} {v : V} {x : Value} (h : RelV s v x) (hn : ∀ w, v ≠ .tup w) : RelV1 s v x := by
  cases v with
  | tup w => exact absurd rfl (hn w)
  | _ => exact h

/-! ### the walk -/
/-- All that the walk of one function leans on. -/
structure Env {β : Type} (P : Program) (E : TE) (S : FuncId → Option Sum) (inl : FuncId → V → HF → (V → HF → Option β) → Option β) : Prop where
  E : TEok P E
  S : ∀ f sm, S f = some sm → SemOf P f sm
  inl : InlOk P inl

/-- A frame, as the evaluator knows it. -/
structure Fr (B : Nat) (s0 : S4) (nt : Nat) (T : TF) (a : Act) (s : S4) : Prop where
  m : MemOk B s
  x : Ext B s0 s
  t : TRel s T a.tmps
  d : a.defers = []
  n : a.tmps.size = nt
  u : ∀ k, s.U k → s0.U k ∨ s0.H.nx ≤ k

section
variable {β : Type} {P : Program} {E : TE} {S : FuncId → Option Sum} {inl : FuncId → V → HF → (V → HF → Option β) → Option β} (hv : Env P E S inl) {B : Nat} {s0 : S4} {nt : Nat}
include hv

theorem notup {T : TF} {o : Operand} : noTup (evO T o) = true → ∀ w, evO T o ≠ .tup w := by
  intro h w e
  rw [e] at h
  cases h

theorem listVL {T : TF} {a : Act} {s : S4} (hT : TRel s T a.tmps) : ∀ (l : List Operand), noTups (aop.listV T l) = true → RelVL s (aop.listV T l) (l.map a.eval)
  | [], _ => rfl
  | x :: l, h => by
    simp only [aop.listV, noTups, Bool.and_eq_true] at h
    exact ⟨_, _, rfl, (evO_rel hT x).to1 (notup hv h.1), listVL hT l h.2⟩

theorem step_ok {T : TF} {a : Act} {s : S4} (h : Fr B s0 nt T a s) {key : Nat} (hu : ∀ k, key ≤ k → k < key + 16 → ¬ s.U k) (hk : key + 16 ≤ s.H.nx) (hkey : s0.H.nx ≤ key) {o : Oper} {K : TF → HF → Option β} {r : β} (hK : stepK E S inl nt key o T s.H K = some r)
    {next : Act → World → Prop} {Q : Exit → Act → World → Prop} (hn : ∀ a' T' t, Fr B s0 nt T' a' t → (∀ k, t.U k → s.U k ∨ (key ≤ k ∧ k < key + 16) ∨ s.H.nx ≤ k) → s.H.nx ≤ t.H.nx → K T' t.H = some r → next a' t.W) : o.wp P a s.W next Q := by
  have fin : ∀ (t : S4) (v : V) (x : Value), MemOk B t → Ext B s t → (∀ k, t.U k → s.U k ∨ (key ≤ k ∧ k < key + 16) ∨ s.H.nx ≤ k) → RelV t v x → K (putT nt T o.dst v) t.H = some r → next (a.put o.dst x) t.W := by
    intro t v x hm hx hU hr hKr
    obtain ⟨p1, p2⟩ := put_tmps a o.dst x
    exact hn _ _ t ⟨hm, h.x.trans hx, trel_put (h.t.ext hx) h.n hr, p1.trans h.d, p2.trans h.n, fun k hk => by
      rcases hU k hk with hk | hk | hk
      · exact h.u k hk
      · exact .inr (Nat.le_trans hkey hk.1)
      · exact .inr (Nat.le_trans h.x.nx hk)⟩ hU hx.nx hKr
  have ofOp : ∀ v H', OpOk B s key ((execOp a.eval o).run P s.W) v H' → K (putT nt T o.dst v) H' = some r → o.wp P a s.W next Q := by
    rintro v H' ⟨t, rfl, hm, hx, hU, hres⟩ hKr
    unfold Oper.wp
    rcases hres with ⟨x, hrun, hr⟩ | ⟨hrun, rfl⟩
    · rw [hrun]
      exact fin t v x hm hx (fun k hk => (hU k hk).imp id .inl) hr hKr
    · rw [hrun]
      exact fin t .undef undef hm hx (fun k hk => (hU k hk).imp id .inl) relV_undef hKr
  have hu0 : ¬ s.U key := hu key (Nat.le_refl _) (by omega)
  have hk0 : key < s.H.nx := by omega
  unfold stepK at hK
  split at hK
  · rename_i c hc
    have hex : execOp a.eval o = (do let d ← resolve a.eval c o.type; invoke d.target d.args : Sem Next) := by simp only [execOp, hc]
    unfold callK at hK
    split at hK
    · rename_i b hb
      obtain ⟨v, H', hto, hKr⟩ := Res.run_to hK
      refine ofOp v H' ?_ hKr
      rw [hex]
      exact abuiltin_ok hv.E h.m hu0 hk0 h.t hb hto
    · rename_i x hcx
      split at hK
      · rename_i f first caps hf
        have hrel := evO_is h.t hf
        obtain ⟨cs, g1, g2⟩ := hrel.get (by intro h; cases h) (by intro w h; cases h)
        simp only [RelC] at g1
        obtain ⟨l, m, rfl, hl, hm⟩ := g1
        have ex := isVal_one g2 rfl
        have hrun : ∀ W, ((execOp a.eval o).run P W) = (callFunc f (l.toArray ++ c.args.map a.eval ++ m.toArray)).run P W := by
          intro W
          rw [hex]
          simp [resolve, hcx, ex, Deferred.ofValue, invoke]
        have ofCall : ∀ {R : S4 → Value → Prop}, CallOk P B s f (l.toArray ++ c.args.map a.eval ++ m.toArray) R → (∀ t x, MemOk B t → Ext B s t → R t x → next (a.put o.dst x) t.W) → o.wp P a s.W next Q := by
          intro R hc' hR
          unfold Oper.wp
          rw [hrun, hc'.1.run]
          refine Calls.mono hc'.2 ?_
          rintro e W' ⟨t, x, rfl, rfl, hm, hx, hr⟩
          exact hR t x hm hx hr
        split at hK
        · rename_i sm hsm
          split at hK
          · obtain ⟨v, H', hto, hKr⟩ := Res.run_to hK
            simp only [RelL] at hl hm
            subst hl hm
            have := asum_ok (hv.S f sm hsm) h.m hu hk h.t hto
            have ea : ([] : List Value).toArray ++ c.args.map a.eval ++ ([] : List Value).toArray = (c.args.toList.map a.eval).toArray := by apply Array.ext'; simp
            refine ofCall (by rw [ea]; exact this) ?_
            rintro t x hm hx ⟨rfl, hU, hr⟩
            exact fin t v x hm hx (fun k hk => (hU k hk).imp id .inl) hr hKr
          · cases hK
        · split at hK
          · rename_i hnt
            have := hv.inl f _ B s _ _ r hK h.m h.t.gl (app_rel (relL_vl hl) (app_rel (listVL hv h.t _ hnt) (relL_vl hm)))
            have ea : l.toArray ++ c.args.map a.eval ++ m.toArray = (l ++ (c.args.toList.map a.eval ++ m)).toArray := by apply Array.ext'; simp
            refine ofCall (by rw [ea]; exact this) ?_
            rintro t x hm hx ⟨hU, v, hr, hKr⟩
            exact fin t v x hm hx (fun k hk => (hU k hk).imp id .inr) hr hKr
          · cases hK
      · cases hK
    · cases hK
  · rename_i hnc
    obtain ⟨v, H', hto, hKr⟩ := Res.run_to hK
    exact ofOp v H' (aop_ok hv.E h.m hu0 hk0 h.t hto) hKr

theorem yielded_at {T : TF} {a : Act} {s : S4} (h : Fr B s0 nt T a s) {ops : Array Oper} {j g : Nat} {b : Bool} (hj : gtmp ops j = some g) (hg : T g = .d .bool b) : yielded ops a.tmps j = some b := by
  have h1 := relV_bool (hg ▸ h.t.tmp g)
  unfold yielded
  unfold gtmp at hj
  rw [hj]
  rw [Array.getD_eq_getD_getElem?] at h1
  cases ht : a.tmps[g]? with
  | none => rw [ht] at h1; simp [undef] at h1
  | some x =>
    rw [ht] at h1
    have h1 : x = .bool b := h1
    subst h1
    simp [ht]

theorem relV_skip {s : S4} : RelV s (.tup .nil) undef := ⟨[], rfl, rfl⟩
theorem unyielded_at {T : TF} {a : Act} {s : S4} (h : Fr B s0 nt T a s) {ops : Array Oper} {j g : Nat} (hj : gtmp ops j = some g) (hg : T g = .tup .nil) : yielded ops a.tmps j = none := by
  have h1 := h.t.tmp g
  rw [hg] at h1
  obtain ⟨l, h1, h2⟩ := h1
  simp only [RelVL] at h2
  subst h2
  unfold yielded
  unfold gtmp at hj
  rw [hj]
  rw [Array.getD_eq_getD_getElem?] at h1
  cases ht : a.tmps[g]? with
  | none => simp [ht]
  | some x =>
    rw [ht] at h1
    have h1 : x = .tuple #[] := h1
    subst h1
    simp [ht]

theorem runOps_ok {ops : Array Oper} {Q : Exit → Act → World → Prop} {N0 : Nat} (hN0 : s0.H.nx ≤ N0) {K : TF → HF → Option β} {r : β} : ∀ (rest : List Oper) (i : Nat) (T : TF) (a : Act) (s : S4), Fr B s0 nt T a s → ops.toList.drop i = rest → N0 + 16 * ops.size ≤ s.H.nx →
    (∀ k, N0 + 16 * i ≤ k → k < N0 + 16 * ops.size → ¬ s.U k) → runOps E S inl nt ops rest (N0 + 16 * i) T s.H K = some r → (∀ a' T' t, Fr B s0 nt T' a' t → K T' t.H = some r → Q .normal a' t.W) →
    wpOps P ops Q (List.range' i (ops.size - i)) a s.W
  | [], i, T, a, s, h, hd, hnx, hu, hK, hQ => by
    have hi : ops.size ≤ i := by
      have := congrArg List.length hd
      simp at this
      omega
    rw [show ops.size - i = 0 by omega]
    exact hQ a T s h hK
  | o :: rest, i, T, a, s, h, hd, hnx, hu, hK, hQ => by
    have hi : i < ops.size := by
      have := congrArg List.length hd
      simp at this
      omega
    have ho : ops[i]? = some o := by
      have := congrArg (fun l => l[0]?) hd
      simpa using this
    have hrest : ops.toList.drop (i + 1) = rest := by
      rw [← List.drop_drop, hd]
      rfl
    have hls : List.range' i (ops.size - i) = i :: List.range' (i + 1) (ops.size - (i + 1)) := by
      rw [show ops.size - i = (ops.size - (i + 1)) + 1 by omega, List.range'_succ]
    rw [hls]
    simp only [wpOps, ho]
    have hkey : N0 + 16 * i + 16 = N0 + 16 * (i + 1) := by omega
    have hroom : 16 * (i + 1) ≤ 16 * ops.size := Nat.mul_le_mul_left _ hi
    have go : ∀ T, Fr B s0 nt T a s → stepK E S inl nt (N0 + 16 * i) o T s.H (fun T' H' => runOps E S inl nt ops rest (N0 + 16 * i + 16) T' H' K) = some r → o.wp P a s.W (wpOps P ops Q (List.range' (i + 1) (ops.size - (i + 1)))) Q := by
      intro T h hK
      refine step_ok hv h (fun k h1 h2 => hu k h1 (by omega)) (by omega) (by omega) hK (fun a' T' t h' hU hnx' hKr => ?_)
      rw [hkey] at hKr
      refine runOps_ok hN0 rest (i + 1) T' a' t h' hrest (by omega) (fun k h1 h2 hk => ?_) hKr hQ
      rcases hU k hk with hk | hk | hk
      · exact hu k (by omega) h2 hk
      · omega
      · omega
    have skip : ∀ T, Fr B s0 nt T a s → runOps E S inl nt ops rest (N0 + 16 * i + 16) (putT nt T o.dst (.tup .nil)) s.H K = some r → wpOps P ops Q (List.range' (i + 1) (ops.size - (i + 1))) (a.put o.dst undef) s.W := by
      intro T h hK
      rw [hkey] at hK
      obtain ⟨p1, p2⟩ := put_tmps a o.dst undef
      exact runOps_ok hN0 rest (i + 1) _ _ s ⟨h.m, h.x, trel_put h.t h.n (relV_skip hv), p1.trans h.d, p2.trans h.n, h.u⟩ hrest hnx (fun k h1 h2 => hu k (by omega) h2) hK hQ
    simp only [runOps] at hK
    split at hK
    · rename_i hg
      rw [if_pos (by simp [Region.wanted, hg])]
      exact .inl (go T h hK)
    · rename_i j want hg
      split at hK
      · cases hK
      · rename_i g hj
        split at hK
        · rename_i b hb
          have hy := yielded_at hv h hj hb
          have hT : ∀ c, b = c → Fr B s0 nt (upd T g (.d .bool c)) a s := fun c e => ⟨h.m, h.x, trel_same h.t (by rw [hb, e]), h.d, h.n, h.u⟩
          cases b with
          | true =>
            cases want with
            | true =>
              rw [if_pos (by simp [Region.wanted, hg, hy])]
              exact .inl (go _ (hT true rfl) hK)
            | false =>
              rw [if_neg (by simp [Region.wanted, hg, hy])]
              exact skip _ (hT true rfl) hK
          | false =>
            cases want with
            | true =>
              rw [if_neg (by simp [Region.wanted, hg, hy])]
              exact skip _ (hT false rfl) hK
            | false =>
              rw [if_pos (by simp [Region.wanted, hg, hy])]
              exact .inl (go _ (hT false rfl) hK)
        · rename_i hb
          have hy := unyielded_at hv h hj hb
          rw [if_neg (by simp [Region.wanted, hg, hy])]
          exact skip _ h hK
        · cases hK
end
end Go.Proofs.YtdfhopakojmjkaaDoor.Den
