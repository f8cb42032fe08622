/- A function's summary, from the evaluator. -/
import Derived.Test.YtdfhopakojmjkaaDoorDenU
namespace Go.Proofs.YtdfhopakojmjkaaDoor.Den
open Go Go.RowKit
set_option linter.unusedVariables false
set_option linter.unusedSectionVars false

/-- A row of one's own, at a place. -/
theorem own_of_row {B : Nat} {s : S4} (h : MemOk B s) {k : Nat} {u : U} {xs : List u.T} {x : Value} (hx : RelV s (.row k) x) (hr : s.H.row k = some ⟨u, xs, true⟩) {J : Nat → Prop} (hJ : ∀ b, s.I b → J b) (hn : ∀ b base, s.ρ.row k = some (b, base) → ¬ J b) :
    OwnAt s.W J B u xs x ((s.ρ.row k).map Prod.fst).toList := by
  obtain ⟨_, _, hv⟩ := relV_row hx
  have hv := hv _ hr
  obtain ⟨_, hz, h3⟩ := h.row k _ hr
  refine ⟨hz, s.ρ.row k, hv, rfl, fun hp => ?_, fun b base hp => ?_⟩
  · rcases h3 with h3 | ⟨b, base, cur, t, e, _⟩
    · exact h3.1
    · rw [hp] at e; cases e
  · rcases h3 with h3 | ⟨b', base', cur, t, e, hh, hw, _, hs, hel⟩
    · rw [h3.2] at hp; cases hp
    · rw [hp] at e
      injection e with e
      injection e with e1 e2
      subst e1 e2
      exact ⟨(hw rfl).1, hn b base hp, cur, t, hh, hs, fun i x hi => by
        obtain ⟨c, hc, hcc⟩ := hel i x hi
        exact ⟨c, hc.mono hJ (fun _ _ => rfl), hcc⟩⟩

/-- The blocks of rows. -/
def blocks (s : S4) (ks : List Nat) : List Nat := ks.flatMap fun k => ((s.ρ.row k).map Prod.fst).toList
theorem blocks_app (s : S4) (ks ls : List Nat) : blocks s (ks ++ ls) = blocks s ks ++ blocks s ls := by simp [blocks]

theorem send_ok {B : Nat} {s : S4} (h : MemOk B s) {J : Nat → Prop} (hI : ∀ b, s.I b → J b) : ∀ {r : RU} {v : V} {y : r.T} {ks : List Nat} {cs : List Value}, r.send v s.H = some (y, ks) → RelC s v cs →
    (∀ k r' b base, k ∈ r.drows v → s.H.row k = some r' → s.ρ.row k = some (b, base) → J b) → (∀ k b base, k ∈ ks → s.ρ.row k = some (b, base) → ¬ J b) →
    RelR s.W J B r y cs (blocks s ks) ∧ v.agg = r.agg ∧ ∀ k ∈ ks, ∃ r', s.H.row k = some r' ∧ r'.w = true
  | .d u, v, y, ks, cs, hs, hr, hd, hk => by
    simp only [RU.send] at hs
    split at hs
    · rename_i x hx
      injection hs with hs
      injection hs with h1 h2
      subst h1 h2
      refine ⟨⟨(deepen_rel h hx hr).mono (fun b hb => ?_) (fun _ _ => rfl), rfl⟩, ?_, by simp⟩
      · rcases hb with hb | ⟨k, r', base, h1, h2, h3⟩
        · exact hI b hb
        · exact hd k r' b base h1 h2 h3
      · unfold V.agg
        rw [deepen_sk hx, U.sk_agg]
        rfl
    · cases hs
  | .own u, .row k, y, ks, cs, hs, hr, hd, hk => by
    simp only [RU.send] at hs
    split at hs
    · rename_i u' xs hrow
      split at hs
      · rename_i x hc
        injection hs with hs
        injection hs with h1 h2
        subst h1 h2
        obtain ⟨e1, e2⟩ := castT_some hc
        injection e1 with e1
        subst e1
        have e2 : xs = x := by simpa using e2
        subst e2
        have hrel : ∃ w, cs = [w] := by
          simp only [RelC] at hr
          obtain ⟨_, w, rfl, _⟩ := hr
          exact ⟨w, rfl⟩
        obtain ⟨w, rfl⟩ := hrel
        refine ⟨⟨w, rfl, ?_⟩, rfl, fun q hq => ?_⟩
        · have := own_of_row h (relV_of (v := .row k) hr rfl) hrow hI (fun b base hp => hk k b base (by simp) hp)
          simpa [blocks] using this
        · simp at hq
          subst hq
          exact ⟨_, hrow, rfl⟩
      · cases hs
    · cases hs
  | .nil, .nil, y, ks, cs, hs, hr, hd, hk => by
    simp only [RU.send] at hs
    injection hs with hs
    injection hs with h1 h2
    subst h2
    simp only [RelC] at hr
    exact ⟨⟨hr, rfl⟩, rfl, by simp⟩
  | .cons a b, .cons va vb, y, ks, cs, hs, hr, hd, hk => by
    simp only [RU.send] at hs
    split at hs
    · rename_i x l h1
      split at hs
      · rename_i z m h2
        injection hs with hs
        injection hs with e1 e2
        subst e1 e2
        simp only [RelC] at hr
        obtain ⟨c1, c2, rfl, g1, g2⟩ := hr
        obtain ⟨p1, p2, p3⟩ := send_ok h hI h1 g1 (fun k r' b base hk' => hd k r' b base (by simp [RU.drows, hk'])) (fun k b base hk' => hk k b base (by simp [hk']))
        obtain ⟨q1, q2, q3⟩ := send_ok h hI h2 g2 (fun k r' b base hk' => hd k r' b base (by simp [RU.drows, hk'])) (fun k b base hk' => hk k b base (by simp [hk']))
        refine ⟨⟨c1, c2, _, _, rfl, blocks_app s l m, p1, q1⟩, rfl, fun k hk' => ?_⟩
        rcases List.mem_append.1 hk' with hk' | hk'
        · exact p3 k hk'
        · exact q3 k hk'
      · cases hs
    · cases hs
  | .own u, .nilsl, y, ks, cs, hs, hr, hd, hk => by
    simp only [RU.send] at hs
    split at hs
    · rename_i hz
      injection hs with hs
      injection hs with h1 h2
      subst h1 h2
      simp only [RelC] at hr
      subst hr
      exact ⟨⟨_, rfl, by simpa [Nat.blt_eq] using hz, none, ⟨none, 0, rfl, Nat.le_refl _, .inl rfl⟩, rfl, fun _ => rfl, fun b base hp => by cases hp⟩, rfl, by simp⟩
    · cases hs
  | .own _, .d _ _, y, ks, cs, hs, hr, hd, hk => by simp [RU.send] at hs
  | .own _, .cons _ _, y, ks, cs, hs, hr, hd, hk => by simp [RU.send] at hs
  | .own _, .nil, y, ks, cs, hs, hr, hd, hk => by simp [RU.send] at hs
  | .own _, .dfull _ _, y, ks, cs, hs, hr, hd, hk => by simp [RU.send] at hs
  | .own _, .rsub _ _ _, y, ks, cs, hs, hr, hd, hk => by simp [RU.send] at hs
  | .own _, .pvar _ _, y, ks, cs, hs, hr, hd, hk => by simp [RU.send] at hs
  | .own _, .prow _ _ _, y, ks, cs, hs, hr, hd, hk => by simp [RU.send] at hs
  | .own _, .pdeep _ _, y, ks, cs, hs, hr, hd, hk => by simp [RU.send] at hs
  | .own _, .fn _ _ _, y, ks, cs, hs, hr, hd, hk => by simp [RU.send] at hs
  | .own _, .tup _, y, ks, cs, hs, hr, hd, hk => by simp [RU.send] at hs
  | .own _, .undef, y, ks, cs, hs, hr, hd, hk => by simp [RU.send] at hs
  | .nil, .d _ _, y, ks, cs, hs, hr, hd, hk => by simp [RU.send] at hs
  | .nil, .cons _ _, y, ks, cs, hs, hr, hd, hk => by simp [RU.send] at hs
  | .nil, .nilsl, y, ks, cs, hs, hr, hd, hk => by simp [RU.send] at hs
  | .nil, .dfull _ _, y, ks, cs, hs, hr, hd, hk => by simp [RU.send] at hs
  | .nil, .row _, y, ks, cs, hs, hr, hd, hk => by simp [RU.send] at hs
  | .nil, .rsub _ _ _, y, ks, cs, hs, hr, hd, hk => by simp [RU.send] at hs
  | .nil, .pvar _ _, y, ks, cs, hs, hr, hd, hk => by simp [RU.send] at hs
  | .nil, .prow _ _ _, y, ks, cs, hs, hr, hd, hk => by simp [RU.send] at hs
  | .nil, .pdeep _ _, y, ks, cs, hs, hr, hd, hk => by simp [RU.send] at hs
  | .nil, .fn _ _ _, y, ks, cs, hs, hr, hd, hk => by simp [RU.send] at hs
  | .nil, .tup _, y, ks, cs, hs, hr, hd, hk => by simp [RU.send] at hs
  | .nil, .undef, y, ks, cs, hs, hr, hd, hk => by simp [RU.send] at hs
  | .cons _ _, .d _ _, y, ks, cs, hs, hr, hd, hk => by simp [RU.send] at hs
  | .cons _ _, .nil, y, ks, cs, hs, hr, hd, hk => by simp [RU.send] at hs
  | .cons _ _, .nilsl, y, ks, cs, hs, hr, hd, hk => by simp [RU.send] at hs
  | .cons _ _, .dfull _ _, y, ks, cs, hs, hr, hd, hk => by simp [RU.send] at hs
  | .cons _ _, .row _, y, ks, cs, hs, hr, hd, hk => by simp [RU.send] at hs
  | .cons _ _, .rsub _ _ _, y, ks, cs, hs, hr, hd, hk => by simp [RU.send] at hs
  | .cons _ _, .pvar _ _, y, ks, cs, hs, hr, hd, hk => by simp [RU.send] at hs
  | .cons _ _, .prow _ _ _, y, ks, cs, hs, hr, hd, hk => by simp [RU.send] at hs
  | .cons _ _, .pdeep _ _, y, ks, cs, hs, hr, hd, hk => by simp [RU.send] at hs
  | .cons _ _, .fn _ _ _, y, ks, cs, hs, hr, hd, hk => by simp [RU.send] at hs
  | .cons _ _, .tup _, y, ks, cs, hs, hr, hd, hk => by simp [RU.send] at hs
  | .cons _ _, .undef, y, ks, cs, hs, hr, hd, hk => by simp [RU.send] at hs

theorem send_w {H : HF} : ∀ {r : RU} {v : V} {y : r.T} {ks : List Nat}, r.send v H = some (y, ks) → ∀ k ∈ ks, ∃ r', H.row k = some r' ∧ r'.w = true := by
  intro r
  induction r with
  | d u =>
    intro v y ks hs
    simp only [RU.send] at hs
    split at hs
    · injection hs with hs
      injection hs with h1 h2
      subst h2
      simp
    · cases hs
  | own u =>
    intro v y ks hs
    cases v with
    | row k =>
      simp only [RU.send] at hs
      split at hs
      · rename_i u' xs hrow
        split at hs
        · injection hs with hs
          injection hs with h1 h2
          subst h2
          intro q hq
          simp at hq
          subst hq
          exact ⟨_, hrow, rfl⟩
        · cases hs
      · cases hs
    | nilsl =>
      simp only [RU.send] at hs
      split at hs
      · injection hs with hs
        injection hs with h1 h2
        subst h2
        simp
      · cases hs
    | _ => simp [RU.send] at hs
  | nil =>
    intro v y ks hs
    cases v with
    | nil =>
      simp only [RU.send] at hs
      injection hs with hs
      injection hs with h1 h2
      subst h2
      simp
    | _ => simp [RU.send] at hs
  | cons a b iha ihb =>
    intro v y ks hs
    cases v with
    | cons va vb =>
      simp only [RU.send] at hs
      split at hs
      · rename_i x l h1
        split at hs
        · rename_i z m h2
          injection hs with hs
          injection hs with e1 e2
          subst e2
          intro k hk
          rcases List.mem_append.1 hk with hk | hk
          · exact iha h1 k hk
          · exact ihb h2 k hk
        · cases hs
      · cases hs
    | _ => simp [RU.send] at hs
theorem sends_ok {B : Nat} {s : S4} (h : MemOk B s) {J : Nat → Prop} (hI : ∀ b, s.I b → J b) : ∀ {r : RU} {v : V} {y : r.T} {ks : List Nat} {l : List Value}, r.lists = true → r.send v s.H = some (y, ks) → RelVL s v l →
    (∀ k r' b base, k ∈ r.drows v → s.H.row k = some r' → s.ρ.row k = some (b, base) → J b) → (∀ k b base, k ∈ ks → s.ρ.row k = some (b, base) → ¬ J b) →
    RelRs s.W J B r y l (blocks s ks) ∧ ∀ k ∈ ks, ∃ r', s.H.row k = some r' ∧ r'.w = true
  | .d u, _, _, _, _, hl, _, _, _, _ => by cases hl
  | .own u, _, _, _, _, hl, _, _, _, _ => by cases hl
  | .nil, v, y, ks, l, hl, hs, hr, hd, hk => by
    cases v with
    | nil =>
      simp only [RU.send] at hs
      injection hs with hs
      injection hs with h1 h2
      subst h2
      exact ⟨⟨hr, rfl⟩, by simp⟩
    | _ => simp [RU.send] at hs
  | .cons a b, v, y, ks, l, hl, hs, hr, hd, hk => by
    cases v with
    | cons va vb =>
      simp only [RU.send] at hs
      split at hs
      · rename_i x m1 h1
        split at hs
        · rename_i z m2 h2
          injection hs with hs
          injection hs with e1 e2
          subst e1 e2
          obtain ⟨w, r, rfl, g1, g2⟩ := hr
          have hn1 : va ≠ .undef ∧ ∀ w, va ≠ .tup w := by
            constructor
            · rintro rfl
              cases a with
              | d u =>
                simp only [RU.send] at h1
                split at h1
                · rename_i x' hx
                  exact (deepen_not hx).1 rfl
                · cases h1
              | _ => simp [RU.send] at h1
            · rintro w rfl
              cases a with
              | d u =>
                simp only [RU.send] at h1
                split at h1
                · rename_i x' hx
                  exact (deepen_not hx).2 w rfl
                · cases h1
              | _ => simp [RU.send] at h1
          obtain ⟨cs, c1, c2⟩ := g1.toV.get hn1.1 hn1.2
          obtain ⟨p1, p2, p3⟩ := send_ok h hI h1 c1 (fun k r' b base hk' => hd k r' b base (by simp [RU.drows, hk'])) (fun k b base hk' => hk k b base (by simp [hk']))
          obtain ⟨q1, q3⟩ := sends_ok h hI (by simpa [RU.lists] using hl) h2 g2 (fun k r' b base hk' => hd k r' b base (by simp [RU.drows, hk'])) (fun k b base hk' => hk k b base (by simp [hk']))
          refine ⟨⟨w, r, cs, _, _, rfl, blocks_app s m1 m2, p1, by rw [← p2]; exact c2, q1⟩, fun k hk' => ?_⟩
          rcases List.mem_append.1 hk' with hk' | hk'
          · exact p3 k hk'
          · exact q3 k hk'
        · cases hs
      · cases hs
    | _ => simp [RU.send] at hs

theorem blocks_nodup {B : Nat} {s : S4} (h : MemOk B s) : ∀ {ks : List Nat}, ks.Nodup → (∀ k ∈ ks, ∃ r', s.H.row k = some r' ∧ r'.w = true) → (blocks s ks).Nodup
  | [], _, _ => by simp [blocks]
  | k :: ks, hn, hw => by
    obtain ⟨h1, h2⟩ := List.nodup_cons.1 hn
    have ih := blocks_nodup h h2 (fun q hq => hw q (by simp [hq]))
    have e : blocks s (k :: ks) = ((s.ρ.row k).map Prod.fst).toList ++ blocks s ks := rfl
    rw [e]
    cases hp : s.ρ.row k with
    | none => simpa using ih
    | some p =>
      obtain ⟨b, base⟩ := p
      simp only [Option.map_some, Option.toList_some, List.singleton_append]
      refine List.nodup_cons.2 ⟨fun hb => ?_, ih⟩
      unfold blocks at hb
      obtain ⟨q, hq, hqb⟩ := List.mem_flatMap.1 hb
      cases hpq : s.ρ.row q with
      | none => rw [hpq] at hqb; simp at hqb
      | some p =>
        obtain ⟨b', base'⟩ := p
        rw [hpq] at hqb
        simp at hqb
        subst hqb
        obtain ⟨r1, a1, a2⟩ := hw k (by simp)
        obtain ⟨r2, b1, b2⟩ := hw q (by simp [hq])
        exact h.rr k q r1 r2 b base base' (fun e => h1 (e ▸ hq)) a1 b1 a2 b2 hp hpq

/-- What is answered, as a summary says it. -/
theorem sent_ok {W : World} {I : Nat → Prop} (hI : ∀ b, I b → b < W.heap.size) {t : S4} {r : RU} {v : V} {lv : List Value} {y : r.T} (hmt : MemOk W.heap.size t) (hxt : Ext W.heap.size { W := W, I := I, H := H0, ρ := ⟨fun _ => 0, fun _ => none⟩, U := fun _ => False } t) (hrel : RelVL t v lv) (hl : r.lists = true) (hsend : sendK r v t.H = some y) :
    ∃ l bs I', Ending.returned (outValue lv) = .returned (outValue l) ∧ Below W.heap.size W t.W ∧ (∀ b, I' b → (I b ∨ W.heap.size ≤ b) ∧ b < t.W.heap.size) ∧ RelRs t.W I' W.heap.size r y l bs ∧ bs.Nodup := by
  unfold sendK at hsend
  split at hsend
  · rename_i y ks hs
    split at hsend
    · rename_i hq
      injection hsend with hsend
      subst hsend
      simp only [Bool.and_eq_true, List.all_eq_true] at hq
      have hnd := of_decide_eq_true hq.1
      have hdis : ∀ k ∈ r.drows v, k ∉ ks := fun k hk hk' => by
        have := hq.2 k hk
        simp [hk'] at this
      let J : Nat → Prop := fun b => t.I b ∨ ∃ k r' base, k ∈ r.drows v ∧ t.H.row k = some r' ∧ t.ρ.row k = some (b, base)
      have hw := send_w hs
      have hnI : ∀ k b base, k ∈ ks → t.ρ.row k = some (b, base) → ¬ t.I b := by
        intro k b base hk hp hb
        obtain ⟨r', h1, h2⟩ := hw k hk
        obtain ⟨_, _, h3⟩ := hmt.row k r' h1
        rcases h3 with h3 | ⟨b', base', cur, ty, e, _, g1, _⟩
        · rw [h3.2] at hp; cases hp
        · rw [hp] at e
          injection e with e
          injection e with e _
          subst e
          exact (g1 h2).2 hb
      have hrow : ∀ k r' b base, t.H.row k = some r' → t.ρ.row k = some (b, base) → (r'.w = true ∧ W.heap.size ≤ b) ∨ (r'.w = false ∧ t.I b) := by
        intro k r' b base h1 hp
        obtain ⟨_, _, h3⟩ := hmt.row k r' h1
        rcases h3 with h3 | ⟨b', base', cur, ty, e, _, g1, g2, _⟩
        · rw [h3.2] at hp; cases hp
        · rw [hp] at e
          injection e with e
          injection e with e _
          subst e
          cases hrw : r'.w with
          | true => exact .inl ⟨rfl, (g1 hrw).1⟩
          | false => exact .inr ⟨rfl, g2 hrw⟩
      have hnJ : ∀ k b base, k ∈ ks → t.ρ.row k = some (b, base) → ¬ J b := by
        rintro k b base hk hp (hb | ⟨q, r', base', h1, h2, h3⟩)
        · exact hnI k b base hk hp hb
        · obtain ⟨r1, a1, a2⟩ := hw k hk
          rcases hrow q r' b base' h2 h3 with ⟨g, _⟩ | ⟨_, g⟩
          · exact hmt.rr k q r1 r' b base base' (fun e => hdis q h1 (e ▸ hk)) a1 h2 a2 g hp h3
          · exact hnI k b base hk hp g
      obtain ⟨p1, p2⟩ := sends_ok hmt (J := J) (fun b hb => .inl hb) hl hs hrel (fun k r' b base h1 h2 h3 => .inr ⟨k, r', base, h1, h2, h3⟩) hnJ
      refine ⟨lv, _, J, rfl, hxt.below, fun b hb => ?_, p1, blocks_nodup hmt hnd hw⟩
      rcases hb with hb | ⟨k, r', base, h1, h2, h3⟩
      · exact ⟨hxt.inew b hb, hmt.ilt b hb⟩
      · refine ⟨?_, hmt.rowlt h2 h3⟩
        rcases hrow k r' b base h2 h3 with ⟨_, g⟩ | ⟨_, g⟩
        · exact .inr g
        · exact hxt.inew b g
    · cases hsend
  · cases hsend

/-- What the evaluator tells of a function is so. -/
theorem semOf {P : Program} {E : TE} (hE : TEok P E) {S : FuncId → Option Sum} (hS : ∀ f sm, S f = some sm → SemOf P f sm) {fns : FuncId → Option Func} (hF : FnsOk P fns) {ann : Nat → FuncId → Nat → Nat → Option LoopSum} {depth : Nat} (hA : AnnOk E S fns ann depth) {f : FuncId} {fn : Func} (hf : P.funcs[f]? = some fn) (hname : (fn.name == "runtime.NumGoroutine") = false)
    (hbody : fn.body.isNone = false) (hL : LoopsOk E S (fun β => inlD E S fns ann depth (β := β)) (ann depth f) fn) {sm : Sum} (hl : sm.r.lists = true) (h : ∀ x r, sm.F x = some r → denFun E S fns ann depth f fn sm.a sm.r x = some r) : SemOf P f sm where
  enters := ⟨fn, hf, hname, hbody⟩
  calls := fun W I hI hG x args r hargs hF' => by
    have hden := h x r hF'
    let s : S4 := { W := W, I := I, H := H0, ρ := ⟨fun _ => 0, fun _ => none⟩, U := fun _ => False }
    have hm : MemOk W.heap.size s := ⟨hI, Nat.le_refl _, (fun k hk => hk.elim), (fun k c hc => by cases hc), (fun k r hr => by cases hr), (fun k l c c' _ hc => by cases hc), (fun k l r r' b b0 b1 _ hr => by cases hr), (fun k l c r b b0 hc => by cases hc)⟩
    obtain ⟨_, hc⟩ := runFun_ok (inlP := fun β => inlD E S fns ann depth (β := β)) (s := s) (fun β => ⟨hE, hS, inl_ok hE hS hF hA depth (Nat.le_refl _) β⟩) hf hname hL hden hm hG (argV_rel (s := s) hargs)
    refine hc.mono ?_
    rintro e W' ⟨t, y, rfl, rfl, hmt, hxt, _, v, lv, hrel, rfl, hsend⟩
    exact sent_ok hI hmt hxt hrel hl hsend
end Go.Proofs.YtdfhopakojmjkaaDoor.Den
