/- Functions, whole: run in place, or told by a summary. -/
import Derived.Test.YtdfhopakojmjkaaDoorDenS
namespace Go.Proofs.YtdfhopakojmjkaaDoor.Den
open Go Go.RowKit
set_option linter.unusedVariables false
set_option linter.unusedSectionVars false

theorem lenL_rel {s : S4} : ∀ {v : V} {l : List Value}, RelVL s v l → lenL v = l.length
  | .cons a b, l, h => by
    obtain ⟨x, r, rfl, _, h2⟩ := h
    simp [lenL, lenL_rel h2]
  | .nil, l, h => by simp only [RelVL] at h; subst h; rfl
  | .d _ _, _, h => by simp only [RelVL] at h
  | .nilsl, _, h => by simp only [RelVL] at h
  | .dfull _ _, _, h => by simp only [RelVL] at h
  | .row _, _, h => by simp only [RelVL] at h
  | .rsub _ _ _, _, h => by simp only [RelVL] at h
  | .pvar _ _, _, h => by simp only [RelVL] at h
  | .prow _ _ _, _, h => by simp only [RelVL] at h
  | .pdeep _ _, _, h => by simp only [RelVL] at h
  | .fn _ _ _, _, h => by simp only [RelVL] at h
  | .tup _, _, h => by simp only [RelVL] at h
  | .undef, _, h => by simp only [RelVL] at h
theorem argT_rel {s : S4} : ∀ {v : V} {l : List Value} {n i : Nat}, RelVL s v l → argT v n i = .undef ∨ ∃ x, n ≤ i ∧ l[i - n]? = some x ∧ RelV s (argT v n i) x
  | .cons a b, l, n, i, h => by
    obtain ⟨x, r, rfl, h1, h2⟩ := h
    simp only [argT]
    cases e : Nat.beq i n with
    | true =>
      have := nat_beq e
      subst this
      exact .inr ⟨x, Nat.le_refl _, by simp, h1.toV⟩
    | false =>
      rcases argT_rel (n := n + 1) (i := i) h2 with g | ⟨y, g1, g2, g3⟩
      · exact .inl g
      · refine .inr ⟨y, by omega, ?_, g3⟩
        rw [show i - n = (i - (n + 1)) + 1 by omega]
        simpa using g2
  | .nil, _, _, _, _ => .inl rfl
  | .d _ _, _, _, _, h => by simp only [RelVL] at h
  | .nilsl, _, _, _, h => by simp only [RelVL] at h
  | .dfull _ _, _, _, _, h => by simp only [RelVL] at h
  | .row _, _, _, _, h => by simp only [RelVL] at h
  | .rsub _ _ _, _, _, _, h => by simp only [RelVL] at h
  | .pvar _ _, _, _, _, h => by simp only [RelVL] at h
  | .prow _ _ _, _, _, _, h => by simp only [RelVL] at h
  | .pdeep _ _, _, _, _, h => by simp only [RelVL] at h
  | .fn _ _ _, _, _, _, h => by simp only [RelVL] at h
  | .tup _, _, _, _, h => by simp only [RelVL] at h
  | .undef, _, _, _, h => by simp only [RelVL] at h

/-! ### what is answered -/
def resOne (tmps : Array Value) : ResultVar → Sem Value
  | .tmp t => pure (tmps.getD t undef)
  | .cell a t => do loadVar t (← asAddr (tmps.getD a undef))
theorem res_ok {P : Program} {E : TE} (hE : TEok P E) {B : Nat} {s : S4} (h : MemOk B s) {T : TF} {tmps : Array Value} (hT : TRel s T tmps) : ∀ {rs : List ResultVar} {v : V}, resV E T s.H rs = some v →
    ∃ l, (rs.mapM (resOne tmps)).run P s.W = .ok l s.W ∧ RelVL s v l
  | [], v, hv => by
    simp only [resV] at hv
    injection hv with hv
    subst hv
    exact ⟨[], by simp, rfl⟩
  | .tmp t :: rs, v, hv => by
    simp only [resV] at hv
    split at hv
    · rename_i hnt
      split at hv
      · rename_i w hw
        injection hv with hv
        subst hv
        obtain ⟨l, h1, h2⟩ := res_ok hE h hT hw
        refine ⟨_ :: l, ?_, _, l, rfl, (hT.tmp t).to1 ?_, h2⟩
        · simp only [List.mapM_cons, resOne, Sem.run_bind, Sem.run_pure, Result.andThen_ok, h1]
        · intro w e
          rw [e] at hnt
          cases hnt
      · cases hv
    · cases hv
  | .cell a t :: rs, v, hv => by
    simp only [resV] at hv
    split at hv
    · rename_i k ha
      split at hv
      · rename_i c hc
        split at hv
        · rename_i n g hs
          split at hv
          · rename_i hq
            split at hv
            · rename_i w hw
              injection hv with hv
              subst hv
              obtain ⟨l, h1, h2⟩ := res_ok hE h hT hw
              simp only [Bool.and_eq_true, beq_iff_eq] at hq
              obtain ⟨hn, hg⟩ := hq
              have hn := nat_beq hn
              have hx := hT.tmp a
              rw [ha] at hx
              obtain ⟨o, cs, t', e, ho, hb, hr⟩ := pvar_at h hx hc
              rw [off_nil] at ho
              injection ho with ho
              subst ho
              obtain ⟨hf, hf1⟩ := hE.sz t n g hs
              obtain ⟨y, hy, hyv⟩ := run_loadVar hf hf1 s.W ⟨s.ρ.var k, 0, none⟩ cs.toList (by rw [hr.len]; exact hn) (fun j u hj => by
                rw [addr_add, cell_at hb]
                simpa using hj)
              refine ⟨y :: l, ?_, y, l, rfl, ?_, h2⟩
              · have ea : (asAddr (tmps.getD a undef)).run P s.W = .ok ⟨s.ρ.var k, 0, none⟩ s.W := by rw [e]; rfl
                simp only [List.mapM_cons, resOne, Sem.run_bind, Sem.run_pure, Result.andThen_ok, ea, hy, h1]
              · exact .inr ⟨_, hr, by rw [hg]; exact hyv⟩
            · cases hv
          · cases hv
        · cases hv
      · cases hv
    · cases hv
theorem results_ok {P : Program} {fn : Func} {tmps : Array Value} {W : World} {l : List Value} (h : (fn.results.toList.mapM (resOne tmps)).run P W = .ok l W) : (results fn tmps).run P W = .ok (outValue l) W := by
  have e : results fn tmps = (do let vs ← fn.results.mapM (resOne tmps); pure (if h : vs.size = 1 then vs[0] else .tuple vs)) := by
    unfold results
    congr 1
  rw [e, Array.mapM_eq_mapM_toList]
  simp only [Sem.run_bind, Sem.run_map, h]
  match l with
  | [] => rfl
  | [v] => rfl
  | v :: w :: r => simp [outValue]

/-- What is said of the loops of a function's body is so. -/
def LoopsOk (E : TE) (S : FuncId → Option Sum) (inlP : (β : Type) → FuncId → V → HF → (V → HF → Option β) → Option β) (ann : Nat → Nat → Option LoopSum) (fn : Func) : Prop :=
  ∀ base, ∀ p ∈ loopsIn (bodyOf fn) 0, ∀ a, ann base p.1 = some a → LoopOk E S inlP ann fn.ntmps base p.2 a
section
variable {P : Program} {E : TE} {S : FuncId → Option Sum}
theorem runFun_ok {inlP : (β : Type) → FuncId → V → HF → (V → HF → Option β) → Option β} {ann : Nat → Nat → Option LoopSum} (hvP : ∀ β, Env P E S (inlP β)) {f : FuncId} {fn : Func} (hf : P.funcs[f]? = some fn) (hname : (fn.name == "runtime.NumGoroutine") = false) (hL : LoopsOk E S inlP ann fn) {β : Type} {args : V} {B : Nat} {s : S4} {l : List Value} {K : V → HF → Option β} {r : β}
    (hK : runFun E S (inlP β) ann fn args s.H K = some r) (hm : MemOk B s) (hg : GlobW s.W s.I) (hl : RelVL s args l) :
    CallOk P B s f l.toArray fun t x => (∀ k, t.U k → s.U k ∨ s.H.nx ≤ k) ∧ ∃ v lv, RelVL t v lv ∧ x = outValue lv ∧ K v t.H = some r := by
  unfold runFun at hK
  split at hK
  · cases hK
  · rename_i c hc
    split at hK
    case h_2 => cases hK
    rename_i hsz
    have hsz : lenL args ≤ fn.ntmps := by simpa [Nat.ble_eq] using hsz
    refine ⟨⟨fn, hf, hname, by rw [hc]; rfl⟩, calls_of_wp hf hc ?_⟩
    have hlen := lenL_rel hl
    have hfr : Fr B s fn.ntmps (argT args 0) { tmps := l.toArray ++ Array.replicate (fn.ntmps - l.toArray.size) undef, defers := [] } s := by
      refine ⟨hm, Ext.refl B s, ⟨fun i => ?_, hg⟩, rfl, ?_, fun k hk => .inl hk⟩
      · rcases argT_rel (n := 0) (i := i) hl with h | ⟨x, _, h2, h3⟩
        · rw [h]; exact relV_undef
        · have hi := (List.getElem?_eq_some_iff.1 h2).1
          have : (l.toArray ++ Array.replicate (fn.ntmps - l.toArray.size) undef).getD i undef = x := by
            rw [Array.getD_eq_getD_getElem?, Array.getElem?_append_left (by simpa using hi)]
            simp only [Nat.sub_zero] at h2
            simp [h2]
          rw [this]
          exact h3
      · simp
        omega
    have hLb : ∀ p ∈ loopsIn c 0, ∀ a, ann s.H.nx p.1 = some a → LoopOk E S inlP ann fn.ntmps s.H.nx p.2 a := by
      have : bodyOf fn = c := by unfold bodyOf; rw [hc]
      rw [← this]
      exact hL s.H.nx
    refine wp_mono (den_ok hvP hm c 0 hLb β (argT args 0) _ s _ r hfr hK) ?_
    rintro e a w ⟨ex, T, t, rfl, rfl, h, hK'⟩
    have fin : ∀ v, resV E T t.H fn.results.toList = some v → K v t.H = some r → a.defers = [] ∧ ∃ x, (results fn a.tmps).run P t.W = .ok x t.W ∧
        ∃ t' x', Ending.returned x = .returned x' ∧ t'.W = t.W ∧ MemOk B t' ∧ Ext B s t' ∧ (∀ k, t'.U k → s.U k ∨ s.H.nx ≤ k) ∧ ∃ v lv, RelVL t' v lv ∧ x' = outValue lv ∧ K v t'.H = some r := by
      intro v hv' hKr
      obtain ⟨lv, g1, g2⟩ := res_ok (hvP β).E h.m h.t hv'
      exact ⟨h.d, _, results_ok g1, t, _, rfl, rfl, h.m, h.x, h.u, v, lv, g2, rfl, hKr⟩
    cases ex with
    | normal =>
      simp only [endK] at hK'
      split at hK'
      · rename_i v hv'
        exact fin v hv' hK'
      · cases hK'
    | exit i => simp only [endK] at hK'; cases hK'
    | ret =>
      simp only [endK] at hK'
      split at hK'
      · rename_i v hv'
        exact fin v hv' hK'
      · cases hK'

/-- The functions' texts. -/
def FnsOk (P : Program) (fns : FuncId → Option Func) : Prop := ∀ f fn, fns f = some fn → P.funcs[f]? = some fn ∧ (fn.name == "runtime.NumGoroutine") = false
/-- What is said of all loops of functions that are run in place is so. -/
def AnnOk (E : TE) (S : FuncId → Option Sum) (fns : FuncId → Option Func) (ann : Nat → FuncId → Nat → Nat → Option LoopSum) (depth : Nat) : Prop :=
  ∀ n f fn, n < depth → fns f = some fn → LoopsOk E S (fun β => inlD E S fns ann n (β := β)) (ann n f) fn
theorem inl_ok (hE : TEok P E) (hS : ∀ f sm, S f = some sm → SemOf P f sm) {fns : FuncId → Option Func} (hF : FnsOk P fns) {ann : Nat → FuncId → Nat → Nat → Option LoopSum} {depth : Nat} (hA : AnnOk E S fns ann depth) : ∀ n, n ≤ depth → ∀ β, InlOk (β := β) P (inlD E S fns ann n)
  | 0, _, β => by
    intro f args B s l K r hK
    cases hK
  | n + 1, hn, β => by
    intro f args B s l K r hK hm hg hl
    simp only [inlD] at hK
    split at hK
    · cases hK
    · rename_i fn hfn
      obtain ⟨h1, h2⟩ := hF f fn hfn
      obtain ⟨g1, g2⟩ := runFun_ok (inlP := fun β => inlD E S fns ann n (β := β)) (fun β => ⟨hE, hS, inl_ok hE hS hF hA n (Nat.le_of_succ_le hn) β⟩) h1 h2 (hA n f fn hn hfn) hK hm hg hl
      refine ⟨g1, g2.mono ?_⟩
      rintro e W' ⟨t, x, rfl, rfl, hm', hx, hU, v, lv, hr, rfl, hKr⟩
      exact ⟨t, _, rfl, rfl, hm', hx, hU, _, out_rel hr, hKr⟩
end

/-! ### a function's summary -/
theorem argV_rel {s : S4} : ∀ {a : U} {x : a.T} {l : List Value}, RelArgs s.W s.I a x l → RelVL s (argV a x) l
  | .cons a b, x, l, h => by
    obtain ⟨v, r, cs, rfl, h1, h2, h3⟩ := h
    refine ⟨v, r, rfl, .inr ⟨cs, by simp only [RelC]; exact h1, by simpa [V.agg, V.sk, U.sk_agg] using h2⟩, argV_rel h3⟩
  | .nil, _, l, h => h
  | .int _, _, _, h => by simp only [RelArgs] at h
  | .bool, _, _, h => by simp only [RelArgs] at h
  | .sl _, _, _, h => by simp only [RelArgs] at h
  | .arr _ _, _, _, h => by simp only [RelArgs] at h
end Go.Proofs.YtdfhopakojmjkaaDoor.Den
