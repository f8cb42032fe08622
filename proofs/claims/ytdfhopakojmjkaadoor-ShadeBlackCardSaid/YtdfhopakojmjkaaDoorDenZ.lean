/- Regions that draw their order: whatever order is drawn comes to what text order comes to. -/
import Derived.Test.YtdfhopakojmjkaaDoorDenY
namespace Go.Proofs.YtdfhopakojmjkaaDoor.Den
open Go Go.RowKit
set_option linter.unusedVariables false
set_option linter.unusedSectionVars false

theorem Res.run_of {β : Type} {K : V → HF → Option β} : ∀ {x : Res} {v : V} {H : HF}, x.to v H → x.run K = K v H
  | .fail, _, _, h => h.elim
  | .ok _ _, _, _, h => by obtain ⟨rfl, rfl⟩ := h; rfl
  | .ite c a b, _, _, h => by
    rcases h with ⟨rfl, h⟩ | ⟨rfl, h⟩
    · exact Res.run_of (x := a) h
    · exact Res.run_of (x := b) h
  | .opt r o k, _, _, h => by
    obtain ⟨x, rfl, h⟩ := h
    exact Res.run_of (x := k x) h

section
variable {E : TE} {S : FuncId → Option Sum}
theorem opRes_still {key : Nat} {T : TF} {H H' : HF} {v : V} {op : Op} (hw : wrOp op = false) (h : (opRes E S key T H op).to v H') : H' = H := by
  have hA : Agree (fun _ => True) H H := fun _ _ => ⟨rfl, rfl⟩
  refine keep_setH (f := fun H => opRes E S key T H op) ?_ h
  cases op with
  | load t x => exact loadV_agree hA (fun _ _ => trivial)
  | fieldAddr t x f => exact fieldV_agree hA (fun _ _ => trivial)
  | indexAddr t x i =>
    simp only [opRes, aop]
    split
    · exact indexV_agree hA (fun _ _ => trivial)
    · rfl
  | binOp op t x y c => exact binV_agree hA (fun _ _ => trivial) (fun _ _ => trivial)
  | unOp op t x => exact unV_agree hA
  | slice t x lo hi mx =>
    have e := fun full l h' => cutV_agree hA (full := full) (l := l) (h' := h') (v := evO T x) (fun _ _ => trivial)
    simp only [opRes, aop]
    repeat' (split <;> first | rfl | contradiction | exact e _ _ _ | skip)
    all_goals (simp only [Res.setH]; congr 1; exact e _ _ _)
  | alloc _ => cases hw
  | box _ _ => cases hw
  | buildSlice _ _ _ => cases hw
  | makeSlice _ _ _ => cases hw
  | store _ _ _ => cases hw
  | call _ => cases hw
  | makeFunc f p q =>
    cases f with
    | func f =>
      simp only [opRes, aop]
      repeat' (split <;> first | rfl | contradiction | skip)
    | _ => rfl
  | _ =>
    simp only [opRes, aop]
    first
    | rfl
    | (repeat' (split <;> first | rfl | contradiction | skip))

/-! ### temporaries -/
theorem putT_ne {nt : Nat} {T : TF} {dst : Option Nat} {v : V} {i : Nat} (h : ∀ d, dst = some d → d ≠ i) : putT nt T dst v i = T i := by
  cases dst with
  | none => rfl
  | some d =>
    have hd : i ≠ d := fun e => h d rfl e.symm
    simp only [putT]
    cases Nat.blt d nt
    · rfl
    · show upd T d v i = T i
      unfold upd
      rw [nbeq hd]
      rfl
theorem evO_put {nt : Nat} {T : TF} {dst : Option Nat} {v : V} {x : Operand} (h : ∀ d, dst = some d → x ≠ .tmp d) : evO (putT nt T dst v) x = evO T x := by
  cases x with
  | tmp t => exact putT_ne fun d hd e => h d hd (by rw [e])
  | _ => rfl
theorem putT_comm {nt : Nat} {T : TF} {x y : Option Nat} {v u : V} (h : ∀ d, x = some d → y ≠ some d) : putT nt (putT nt T x v) y u = putT nt (putT nt T y u) x v := by
  cases x with
  | none => rfl
  | some d =>
    cases y with
    | none => rfl
    | some e =>
      have hde : d ≠ e := fun q => h d rfl (by rw [q])
      simp only [putT]
      cases h1 : Nat.blt d nt <;> cases h2 : Nat.blt e nt <;> simp only [cond_true, cond_false]
      funext i
      unfold upd
      by_cases a : i = e
      · subst a
        have : Nat.beq i d = false := nbeq (Ne.symm hde)
        simp [this]
      · simp [nbeq a]

/-! ### what is done in a region, operation by operation -/
variable (ops : Array Oper) (nt N0 : Nat)
def Wants (T : TF) (o : Oper) (b : Bool) : Prop := match o.guard with
  | none => b = true
  | some (j, want) => ∃ g, gtmp ops j = some g ∧ ((∃ c, T g = .d .bool c ∧ b = (c == want)) ∨ (T g = .tup .nil ∧ b = false))
variable (E S)
def Did (fp : Nat → List Nat) (i : Nat) (T : TF) (H : HF) (T' : TF) (H' : HF) : Prop :=
  ∃ o b, ops[i]? = some o ∧ opKeys T o.op = fp i ∧ Wants ops T o b ∧
    ((b = true ∧ ∃ v, (opRes E S (N0 + 16 * i) T H o.op).to v H' ∧ T' = putT nt T o.dst v) ∨ (b = false ∧ H' = H ∧ T' = putT nt T o.dst (.tup .nil)))
def Run (fp : Nat → List Nat) (Q : TF → HF → Prop) : List Nat → TF → HF → Prop
  | [], T, H => Q T H
  | i :: l, T, H => ∃ T' H', Did E S ops nt N0 fp i T H T' H' ∧ Run fp Q l T' H'
variable {E S}
/-- Two operations that may change places. -/
structure Off (fp : Nat → List Nat) (x j : Nat) : Prop where
  ne : x ≠ j
  ex : ∃ ox oj, ops[x]? = some ox ∧ ops[j]? = some oj ∧ looksApart ops ox oj = true ∧
    ((wrOp ox.op = false ∧ wrOp oj.op = false) ∨
      ((∀ k ∈ fp x, k ∉ fp j ∧ (k < N0 + 16 * j ∨ N0 + 16 * j + 16 ≤ k)) ∧ (∀ k ∈ fp j, (k < N0 + 16 * x ∨ N0 + 16 * x + 16 ≤ k))))
variable {ops nt N0}
theorem wants_put {T : TF} {o : Oper} {b : Bool} {dst : Option Nat} {v : V} (h : ∀ d, dst = some d → d ∉ Oper.looksAt ops o) (hw : Wants ops T o b) : Wants ops (putT nt T dst v) o b := by
  unfold Wants at *
  split
  · rename_i hg; rw [hg] at hw; exact hw
  · rename_i j want hg
    rw [hg] at hw
    obtain ⟨g, h1, h2⟩ := hw
    refine ⟨g, h1, ?_⟩
    rw [putT_ne]
    · exact h2
    · rintro d hd rfl
      refine h d hd ?_
      unfold Oper.looksAt
      unfold gtmp at h1
      simp [hg, h1]
theorem wants_unput {T : TF} {o : Oper} {b : Bool} {dst : Option Nat} {v : V} (h : ∀ d, dst = some d → d ∉ Oper.looksAt ops o) (hw : Wants ops (putT nt T dst v) o b) : Wants ops T o b := by
  unfold Wants at *
  split
  · rename_i hg; rw [hg] at hw; exact hw
  · rename_i j want hg
    rw [hg] at hw
    obtain ⟨g, h1, h2⟩ := hw
    refine ⟨g, h1, ?_⟩
    rw [putT_ne] at h2
    · exact h2
    · rintro d hd rfl
      refine h d hd ?_
      unfold Oper.looksAt
      unfold gtmp at h1
      simp [hg, h1]
theorem operands_put {T : TF} {o : Oper} {dst : Option Nat} {v : V} (h : ∀ d, dst = some d → d ∉ Oper.looksAt ops o) : ∀ x ∈ o.op.operands.toList, evO (putT nt T dst v) x = evO T x := by
  intro x hx
  refine evO_put ?_
  rintro d hd rfl
  refine h d hd ?_
  unfold Oper.looksAt
  refine List.mem_append.2 (.inl (List.mem_filterMap.2 ⟨_, hx, rfl⟩))

theorem own_off {fp : Nat → List Nat} {T : TF} {x j : Nat} {ox oj : Oper} (hx : opKeys T ox.op = fp x) (hj : opKeys T oj.op = fp j) (hne : x ≠ j)
    (h1 : ∀ k ∈ fp x, k ∉ fp j ∧ (k < N0 + 16 * j ∨ N0 + 16 * j + 16 ≤ k)) (h2 : ∀ k ∈ fp j, (k < N0 + 16 * x ∨ N0 + 16 * x + 16 ≤ k)) :
    ∀ k, Own T ox.op (N0 + 16 * x) k → ¬ Own T oj.op (N0 + 16 * j) k := by
  intro k hk hk'
  unfold Own at hk hk'
  rw [hx] at hk
  rw [hj] at hk'
  rcases hk with hk | hk <;> rcases hk' with hk' | hk'
  · exact (h1 k hk).1 hk'
  · have := (h1 k hk).2; omega
  · have := h2 k hk'; omega
  · omega

theorem own_congr {T T2 : TF} {op : Op} {key : Nat} (h : ∀ x ∈ op.operands.toList, evO T2 x = evO T x) {k : Nat} : Own T2 op key k ↔ Own T op key k := by
  unfold Own
  rw [opKeys_congr h]

theorem hf_ext {H H2 : HF} (h1 : ∀ k, H.var k = H2.var k) (h2 : ∀ k, H.row k = H2.row k) (h3 : H.nx = H2.nx) : H = H2 := by
  cases H; cases H2
  simp only at h1 h2 h3
  subst h3
  congr 1
  · exact funext h1
  · exact funext h2

theorem memswap {A B : Nat → Prop} {f g : HF → Res} (hf : Loc A f) (hg : Loc B g) (hd : ∀ k, A k → ¬ B k) {H H1 H2 : HF} {v u : V} (h1 : (f H).to v H1) (h2 : (g H1).to u H2) :
    ∃ H1', (g H).to u H1' ∧ (f H1').to v H2 := by
  obtain ⟨G, g1, g2⟩ := hf H H v H1 (fun _ _ => ⟨rfl, rfl⟩) h1
  have eG := (Res.to_det g1 h1).2
  subst eG
  obtain ⟨G2, s1, s2⟩ := hg G G u H2 (fun _ _ => ⟨rfl, rfl⟩) h2
  have eG2 := (Res.to_det s1 h2).2
  subst eG2
  have hB : ∀ k, B k → ¬ A k := fun k hb ha => hd k ha hb
  obtain ⟨H1', r1, r2⟩ := hg G H u G2 (fun k hk => ⟨(g2.off k (hB k hk)).1.symm, (g2.off k (hB k hk)).2.symm⟩) h2
  obtain ⟨H3, t1, t2⟩ := hf H H1' v G (fun k hk => r2.off k (hd k hk)) h1
  have e : H3 = G2 := by
    have key : ∀ k, H3.var k = G2.var k ∧ H3.row k = G2.row k := by
      intro k
      by_cases ha : A k
      · have a := t2.on k ha
        have b := s2.off k (hd k ha)
        exact ⟨a.1.trans b.1.symm, a.2.trans b.2.symm⟩
      · have a := t2.off k ha
        by_cases hb : B k
        · have b := r2.on k hb
          exact ⟨a.1.trans b.1, a.2.trans b.2⟩
        · have b := r2.off k hb
          have c := s2.off k hb
          have d := g2.off k ha
          exact ⟨(a.1.trans b.1).trans (c.1.trans d.1).symm, (a.2.trans b.2).trans (c.2.trans d.2).symm⟩
    exact hf_ext (fun k => (key k).1) (fun k => (key k).2) ((t2.nx.trans r2.nx).trans (s2.nx.trans g2.nx).symm)
  subst e
  exact ⟨H1', r1, t1⟩

/-- Of two that may change places the second may be first. -/
theorem swap {fp : Nat → List Nat} {x j : Nat} {T T1 T2 : TF} {H H1 H2 : HF} (h1 : Did E S ops nt N0 fp x T H T1 H1) (h2 : Did E S ops nt N0 fp j T1 H1 T2 H2) (ha : Off ops N0 fp x j) :
    ∃ T1' H1', Did E S ops nt N0 fp j T H T1' H1' ∧ Did E S ops nt N0 fp x T1' H1' T2 H2 := by
  obtain ⟨ox, b, o1, o2, o3, o4⟩ := h1
  obtain ⟨oj, c, p1, p2, p3, p4⟩ := h2
  obtain ⟨ox', oj', q1, q2, q3, q4⟩ := ha.ex
  rw [o1] at q1
  injection q1 with q1
  rw [p1] at q2
  injection q2 with q2
  subst q1 q2
  have hap : Oper.apart ops ox oj = true := q3
  obtain ⟨a1, a2, a3⟩ := Oper.apart_spec hap
  obtain ⟨vx, hvx⟩ : ∃ v, T1 = putT nt T ox.dst v := by rcases o4 with ⟨_, v, _, e⟩ | ⟨_, _, e⟩ <;> exact ⟨_, e⟩
  have ej : ∀ z ∈ oj.op.operands.toList, evO T1 z = evO T z := by rw [hvx]; exact operands_put a1
  have kj : opKeys T oj.op = fp j := by rw [← p2]; exact (opKeys_congr ej).symm
  have wj : Wants ops T oj c := wants_unput (nt := nt) a1 (by rw [← hvx]; exact p3)
  have wx : ∀ v, Wants ops (putT nt T oj.dst v) ox b := fun v => wants_put a3 o3
  have ex : ∀ v, ∀ z ∈ ox.op.operands.toList, evO (putT nt T oj.dst v) z = evO T z := fun v => operands_put a3
  have kx : ∀ v, opKeys (putT nt T oj.dst v) ox.op = fp x := fun v => by rw [← o2]; exact opKeys_congr (ex v)
  rcases p4 with ⟨rfl, v, p5, p6⟩ | ⟨rfl, p5, p6⟩
  · rw [opRes_congr ej] at p5
    rcases o4 with ⟨rfl, v', o5, o6⟩ | ⟨rfl, o5, o6⟩
    · have mem : ∃ H1', (opRes E S (N0 + 16 * j) T H oj.op).to v H1' ∧ (opRes E S (N0 + 16 * x) T H1' ox.op).to v' H2 := by
        rcases q4 with ⟨w1, w2⟩ | ⟨w1, w2⟩
        · have e1 := opRes_still w1 o5
          subst e1
          have e2 := opRes_still w2 p5
          subst e2
          exact ⟨_, p5, o5⟩
        · exact memswap (f := fun H => opRes E S (N0 + 16 * x) T H ox.op) (g := fun H => opRes E S (N0 + 16 * j) T H oj.op) opRes_loc opRes_loc (own_off (N0 := N0) o2 kj ha.ne w1 w2) o5 p5
      obtain ⟨H1', m1, m2⟩ := mem
      refine ⟨putT nt T oj.dst v, H1', ⟨oj, true, p1, kj, wj, .inl ⟨rfl, v, m1, rfl⟩⟩, ⟨ox, true, o1, kx v, wx v, .inl ⟨rfl, v', ?_, ?_⟩⟩⟩
      · rw [opRes_congr (ex v)]; exact m2
      · rw [p6, o6]
        exact putT_comm a2
    · subst o5
      refine ⟨putT nt T oj.dst v, H2, ⟨oj, true, p1, kj, wj, .inl ⟨rfl, v, p5, rfl⟩⟩, ⟨ox, false, o1, kx v, wx v, .inr ⟨rfl, rfl, ?_⟩⟩⟩
      rw [p6, o6]
      exact putT_comm a2
  · subst p5
    refine ⟨putT nt T oj.dst (.tup .nil), H, ⟨oj, false, p1, kj, wj, .inr ⟨rfl, rfl, rfl⟩⟩, ⟨ox, b, o1, kx _, wx _, ?_⟩⟩
    rcases o4 with ⟨rfl, v', o5, o6⟩ | ⟨rfl, o5, o6⟩
    · refine .inl ⟨rfl, v', ?_, ?_⟩
      · rw [opRes_congr (ex _)]; exact o5
      · rw [p6, o6]
        exact putT_comm a2
    · refine .inr ⟨rfl, o5, ?_⟩
      rw [p6, o6]
      exact putT_comm a2

/-- An operation goes ahead of those that it may change places with. -/
theorem ahead {fp : Nat → List Nat} {Q : TF → HF → Prop} {j : Nat} : ∀ {l m : List Nat} {T : TF} {H : HF}, (∀ x ∈ l, Off ops N0 fp x j) → Run E S ops nt N0 fp Q (l ++ j :: m) T H → Run E S ops nt N0 fp Q (j :: (l ++ m)) T H
  | [], m, T, H, _, h => h
  | x :: l, m, T, H, hl, h => by
    obtain ⟨T1, H1, d1, r1⟩ := h
    obtain ⟨T2, H2, d2, r2⟩ := ahead (fun y hy => hl y (by simp [hy])) r1
    obtain ⟨T1', H1', e1, e2⟩ := swap d1 d2 (hl x (by simp))
    exact ⟨T1', H1', e1, T2, H2, e2, r2⟩

/-! ### what stands ahead of what -/
variable (ops) in
inductive Anc : Nat → Nat → Prop
  | one {i j : Nat} {o : Oper} : ops[i]? = some o → j ∈ edgesOf o → Anc j i
  | more {i j k : Nat} {o : Oper} : ops[i]? = some o → j ∈ edgesOf o → Anc k j → Anc k i
theorem mem_edges {o : Oper} {j : Nat} : j ∈ edgesOf o ↔ ∃ e ∈ o.after, Region.binds .any e = true ∧ e.on = j := by
  unfold edgesOf
  simp only [List.mem_map, List.mem_filter, Array.mem_toList_iff]
  constructor
  · rintro ⟨e, ⟨h1, h2⟩, h3⟩; exact ⟨e, h1, h2, h3⟩
  · rintro ⟨e, h1, h2, h3⟩; exact ⟨e, ⟨h1, h2⟩, h3⟩
theorem Anc.listed {L : Nat → Prop} (hc : ∀ i o j, ops[i]? = some o → L i → j ∈ edgesOf o → L j) {j i : Nat} (h : Anc ops j i) : (∀ o k, ops[i]? = some o → k ∈ edgesOf o → L k) → L j := by
  induction h with
  | one h1 h2 => intro h; exact h _ _ h1 h2
  | more h1 h2 _ ih => intro h; exact ih fun o k ho hk => hc _ o k ho (h _ _ h1 h2) hk
theorem ancOf_mem {dir : List Nat} : ∀ {prev : List (Nat × Fp × List Nat)} {a : Nat}, a ∈ ancOf dir prev → a ∈ dir ∨ ∃ p ∈ prev, p.1 ∈ dir ∧ a ∈ p.2.2
  | [], a, h => .inl h
  | p :: r, a, h => by
    simp only [ancOf] at h
    cases hc : dir.contains p.1 with
    | true =>
      rw [hc] at h
      rcases List.mem_append.1 h with h | h
      · exact .inr ⟨p, by simp, by simpa using hc, h⟩
      · rcases ancOf_mem h with h | ⟨q, h1, h2⟩
        · exact .inl h
        · exact .inr ⟨q, by simp [h1], h2⟩
    | false =>
      rw [hc] at h
      rcases ancOf_mem h with h | ⟨q, h1, h2⟩
      · exact .inl h
      · exact .inr ⟨q, by simp [h1], h2⟩

/-- What is known of those that came ahead. -/
structure Prev (ops : Array Oper) (N0 : Nat) (i : Nat) (prev : List (Nat × Fp × List Nat)) : Prop where
  at_ : ∀ p ∈ prev, p.1 < i ∧ ops[p.1]? = some p.2.1.o ∧ p.2.1.key = N0 + 16 * p.1 ∧ ∀ a ∈ p.2.2, Anc ops a p.1
  all : ∀ j, j < i → ∃ p ∈ prev, p.1 = j
  one : ∃ fp : Nat → List Nat, ∀ p ∈ prev, p.2.1.D = fp p.1
/-- The order's facts, from i on. -/
def Facts (ops : Array Oper) (N0 : Nat) (fp : Nat → List Nat) (i : Nat) : Prop :=
  ∀ q o, i ≤ q → ops[q]? = some o → (∀ j ∈ edgesOf o, j < q) ∧ ∀ j, j < q → Anc ops j q ∨ Off ops N0 fp j q

theorem upd_same {T : TF} {g : Nat} {v : V} (h : T g = v) : upd T g v = T := by
  funext i
  unfold upd
  by_cases e : i = g
  · subst e
    simp [h]
  · simp [nbeq e]

theorem off_of {prev : List (Nat × Fp × List Nat)} {i : Nat} {o : Oper} {T : TF} {fp : Nat → List Nat} (hp : Prev ops N0 i prev) (ho : ops[i]? = some o) (hfp : ∀ p ∈ prev, p.2.1.D = fp p.1) (hi : fp i = opKeys T o.op)
    {p : Nat × Fp × List Nat} (hmem : p ∈ prev) (h : Fp.ok ops p.2.1 (fpOf (N0 + 16 * i) o T) = true) : Off ops N0 fp p.1 i := by
  obtain ⟨h1, h2, h3, _⟩ := hp.at_ p hmem
  refine ⟨Nat.ne_of_lt h1, p.2.1.o, o, h2, ho, ?_⟩
  unfold Fp.ok at h
  simp only [Bool.and_eq_true, Bool.or_eq_true, fpOf] at h
  obtain ⟨g1, g2⟩ := h
  refine ⟨g1, ?_⟩
  rcases g2 with ⟨a, b⟩ | ⟨⟨a, b⟩, c⟩
  · left
    constructor
    · simpa using a
    · simpa using b
  · right
    unfold Fp.off at a b
    simp only [List.all_eq_true, Bool.and_eq_true, Bool.or_eq_true, Nat.blt_eq, Nat.ble_eq] at a b
    rw [← hfp p hmem, hi, ← h3]
    constructor
    · intro k hk
      have := a k hk
      refine ⟨by simpa using this.1, this.2⟩
    · intro k hk
      exact (b k hk).2

theorem any_run {β : Type} {K : TF → HF → Option β} {r : β} : ∀ (rest : List Oper) (i : Nat) (prev : List (Nat × Fp × List Nat)) (T : TF) (H : HF), ops.toList.drop i = rest →
    Prev ops N0 i prev → runAny E S nt ops rest i (N0 + 16 * i) prev T H K = some r →
    ∃ fp : Nat → List Nat, (∀ p ∈ prev, p.2.1.D = fp p.1) ∧ Run E S ops nt N0 fp (fun T H => K T H = some r) (List.range' i (ops.size - i)) T H ∧ Facts ops N0 fp i
  | [], i, prev, T, H, hd, hp, hK => by
    have hi : ops.size ≤ i := by
      have := congrArg List.length hd
      simp at this
      omega
    obtain ⟨fp, hfp⟩ := hp.one
    refine ⟨fp, hfp, ?_, fun q o h1 h2 => ?_⟩
    · rw [show ops.size - i = 0 by omega]
      exact hK
    · have := (Array.getElem?_eq_some_iff.1 h2).1
      omega
  | o :: rest, i, prev, T, H, hd, hp, hK => by
    have hi : i < ops.size := by
      have := congrArg List.length hd
      simp at this
      omega
    have ho : ops[i]? = some o := by
      have := congrArg (fun l => l[0]?) hd
      simpa using this
    have hrest : ops.toList.drop (i + 1) = rest := by
      rw [← List.drop_drop, hd]
      rfl
    have hls : List.range' i (ops.size - i) = i :: List.range' (i + 1) (ops.size - (i + 1)) := by
      rw [show ops.size - i = (ops.size - (i + 1)) + 1 by omega, List.range'_succ]
    have hkey : N0 + 16 * i + 16 = N0 + 16 * (i + 1) := by omega
    rw [hls]
    simp only [runAny] at hK
    split at hK
    · cases hK
    rename_i hcheck
    simp only [Bool.and_eq_true, List.all_eq_true, Bool.or_eq_true, Nat.blt_eq] at hcheck
    obtain ⟨hc1, hc2⟩ := hcheck
    have anc : ∀ a ∈ ancOf (edgesOf o) prev, Anc ops a i := by
      intro a ha
      rcases ancOf_mem ha with ha | ⟨p, h1, h2, h3⟩
      · exact .one ho ha
      · exact .more ho h2 ((hp.at_ p h1).2.2.2 a h3)
    have hp' : Prev ops N0 (i + 1) ((i, fpOf (N0 + 16 * i) o T, ancOf (edgesOf o) prev) :: prev) := by
      obtain ⟨fp, hfp⟩ := hp.one
      refine ⟨?_, ?_, fun k => if k = i then opKeys T o.op else fp k, ?_⟩
      · intro p hpm
        rcases List.mem_cons.1 hpm with rfl | hpm
        · exact ⟨Nat.lt_succ_self _, ho, rfl, anc⟩
        · obtain ⟨h1, h2⟩ := hp.at_ p hpm
          exact ⟨Nat.lt_succ_of_lt h1, h2⟩
      · intro j hj
        rcases Nat.lt_succ_iff_lt_or_eq.1 hj with hj | rfl
        · obtain ⟨p, h1, h2⟩ := hp.all j hj
          exact ⟨p, by simp [h1], h2⟩
        · exact ⟨_, List.mem_cons_self, rfl⟩
      · intro p hpm
        rcases List.mem_cons.1 hpm with rfl | hpm
        · simp [fpOf]
        · have h1 := (hp.at_ p hpm).1
          have h2 : p.1 ≠ i := Nat.ne_of_lt h1
          show _ = if p.1 = i then _ else fp p.1
          rw [if_neg h2]
          exact hfp p hpm
    have fin : ∀ (b : Bool) (T' : TF) (H' : HF), Wants ops T o b → ((b = true ∧ ∃ v, (opRes E S (N0 + 16 * i) T H o.op).to v H' ∧ T' = putT nt T o.dst v) ∨ (b = false ∧ H' = H ∧ T' = putT nt T o.dst (.tup .nil))) →
        runAny E S nt ops rest (i + 1) (N0 + 16 * i + 16) ((i, fpOf (N0 + 16 * i) o T, ancOf (edgesOf o) prev) :: prev) T' H' K = some r →
        ∃ fp : Nat → List Nat, (∀ p ∈ prev, p.2.1.D = fp p.1) ∧ Run E S ops nt N0 fp (fun T H => K T H = some r) (i :: List.range' (i + 1) (ops.size - (i + 1))) T H ∧ Facts ops N0 fp i := by
      intro b T' H' hw hdo hrun
      rw [hkey] at hrun
      obtain ⟨fp, f1, f2, f3⟩ := any_run rest (i + 1) _ T' H' hrest hp' hrun
      have fi : fp i = opKeys T o.op := (f1 _ List.mem_cons_self).symm
      have fprev : ∀ p ∈ prev, p.2.1.D = fp p.1 := fun p hpm => f1 p (by simp [hpm])
      refine ⟨fp, fprev, ⟨T', H', ⟨o, b, ho, fi.symm, hw, hdo⟩, f2⟩, fun q oq hq hoq => ?_⟩
      rcases Nat.eq_or_lt_of_le hq with rfl | hq
      · rw [ho] at hoq
        injection hoq with hoq
        subst hoq
        refine ⟨fun j hj => by simpa using hc1 j hj, fun j hj => ?_⟩
        obtain ⟨p, h1, rfl⟩ := hp.all j hj
        rcases hc2 p h1 with h | h
        · exact .inl (anc _ (by simpa using h))
        · exact .inr (off_of hp ho fprev fi h1 h)
      · exact f3 q oq hq hoq
    split at hK
    · rename_i hg
      obtain ⟨v, H', hto, hKr⟩ := Res.run_to hK
      exact fin true _ H' (by simp [Wants, hg]) (.inl ⟨rfl, v, hto, rfl⟩) hKr
    · rename_i j want hg
      split at hK
      · cases hK
      · rename_i g hj
        split at hK
        · rename_i b hb
          cases b with
          | true =>
            rw [upd_same hb] at hK
            cases want with
            | true =>
              obtain ⟨v, H', hto, hKr⟩ := Res.run_to hK
              exact fin true _ H' (by simp only [Wants, hg]; exact ⟨g, hj, .inl ⟨true, hb, rfl⟩⟩) (.inl ⟨rfl, v, hto, rfl⟩) hKr
            | false =>
              exact fin false _ H (by simp only [Wants, hg]; exact ⟨g, hj, .inl ⟨true, hb, rfl⟩⟩) (.inr ⟨rfl, rfl, rfl⟩) hK
          | false =>
            rw [upd_same hb] at hK
            cases want with
            | true =>
              exact fin false _ H (by simp only [Wants, hg]; exact ⟨g, hj, .inl ⟨false, hb, rfl⟩⟩) (.inr ⟨rfl, rfl, rfl⟩) hK
            | false =>
              obtain ⟨v, H', hto, hKr⟩ := Res.run_to hK
              exact fin true _ H' (by simp only [Wants, hg]; exact ⟨g, hj, .inl ⟨false, hb, rfl⟩⟩) (.inl ⟨rfl, v, hto, rfl⟩) hKr
        · rename_i hb
          exact fin false _ H (by simp only [Wants, hg]; exact ⟨g, hj, .inr ⟨hb, trivial⟩⟩) (.inr ⟨rfl, rfl, rfl⟩) hK
        · cases hK
end

/-! ### the machine, whatever it draws -/
section
variable {β : Type} {P : Program} {E : TE} {S : FuncId → Option Sum} {inl : FuncId → V → HF → (V → HF → Option β) → Option β} (hv : Env P E S inl) {B : Nat} {s0 : S4} {nt : Nat}
include hv
theorem stepK_of {key : Nat} {o : Oper} {T : TF} {H H' : HF} {v : V} {K : TF → HF → Option β} (h : (opRes E S key T H o.op).to v H') : stepK E S inl nt key o T H K = K (putT nt T o.dst v) H' := by
  unfold stepK
  split
  · rename_i c hc
    rw [hc] at h
    simp only [opRes] at h
    unfold callK
    split
    · rename_i b hb
      rw [hb] at h
      exact Res.run_of h
    · rename_i x hx
      rw [hx] at h
      simp only at h
      split
      · rename_i f first caps hf
        rw [hf] at h
        simp only at h
        split
        · rename_i sm hsm
          rw [hsm] at h
          simp only at h
          split
          · exact Res.run_of h
          · rename_i hne
            split at h
            · exact absurd rfl (hne rfl)
            · cases h
        · rename_i hsm
          rw [hsm] at h
          cases h
      · rename_i hne
        split at h
        · rename_i f first caps hf
          exact absurd hf (hne f first caps)
        · cases h
    · rename_i hne1 hne2
      split at h
      · rename_i b hb
        exact absurd hb (hne1 b)
      · rename_i x hx
        exact absurd hx (hne2 x)
      · cases h
  · rename_i hne
    have : opRes E S key T H o.op = aop E key T H o.op := by
      cases ho : o.op with
      | call c => exact absurd ho (hne c)
      | _ => rfl
    rw [this] at h
    exact Res.run_of h

theorem mem_ready' {ops : Array Oper} {j : Nat} {listed : Array Bool} : j ∈ Region.ready .any ops listed ↔
    listed.getD j true = false ∧ ∃ o, ops[j]? = some o ∧ ∀ k ∈ edgesOf o, listed.getD k false = true := by
  rw [mem_ready]
  refine and_congr_right fun _ => exists_congr fun o => and_congr_right fun _ => ?_
  constructor
  · intro h k hk
    obtain ⟨e, h1, h2, rfl⟩ := mem_edges.1 hk
    exact h e h1 h2
  · intro h e he hb
    exact h _ (mem_edges.2 ⟨e, he, hb, rfl⟩)

theorem any_wp {ops : Array Oper} {fp : Nat → List Nat} {N0 : Nat} (hN0 : s0.H.nx ≤ N0) (hf : Facts ops N0 fp 0) {Q : Exit → Act → World → Prop} {K : TF → HF → Option β} {r : β} (hQ : ∀ a' T' t, Fr B s0 nt T' a' t → K T' t.H = some r → Q .normal a' t.W) :
    ∀ (fuel : Nat) (l : List Nat) (listed : Array Bool) (T : TF) (a : Act) (s : S4), l.length = fuel → l.Pairwise (· < ·) → listed.size = ops.size → (∀ i, i ∈ l ↔ i < ops.size ∧ listed.getD i true = false) →
      (∀ i o j, ops[i]? = some o → listed.getD i false = true → j ∈ edgesOf o → listed.getD j false = true) → Fr B s0 nt T a s → N0 + 16 * ops.size ≤ s.H.nx → (∀ i ∈ l, ∀ k, N0 + 16 * i ≤ k → k < N0 + 16 * i + 16 → ¬ s.U k) →
      Run E S ops nt N0 fp (fun T H => K T H = some r) l T s.H → wpAny P .any ops Q fuel listed a s.W := by
  intro fuel
  induction fuel with
  | zero =>
    intro l listed T a s hl hs hsz hm hc h hnx hu hr
    have : l = [] := List.eq_nil_of_length_eq_zero hl
    subst this
    refine ⟨?_, hQ a T s h hr⟩
    rw [List.eq_nil_iff_forall_not_mem]
    intro j hj
    obtain ⟨h1, o, h2, _⟩ := (mem_ready' hv).1 hj
    have := (hm j).2 ⟨(Array.getElem?_eq_some_iff.1 h2).1, h1⟩
    simp at this
  | succ fuel ih =>
    intro l listed T a s hl hs hsz hm hc h hnx hu hr
    have lst : ∀ j, j < ops.size → j ∉ l → listed.getD j false = true := by
      intro j hj hjl
      have h1 : listed.getD j true ≠ false := fun e => hjl ((hm j).2 ⟨hj, e⟩)
      have h2 : j < listed.size := by omega
      simp only [Array.getD_eq_getD_getElem?, Array.getElem?_eq_getElem h2, Option.getD_some] at h1 ⊢
      simpa using h1
    constructor
    · intro hready
      cases l with
      | nil => simp at hl
      | cons i0 l =>
        exfalso
        obtain ⟨h1, h2⟩ := (hm i0).1 (by simp)
        have hi0 : i0 ∈ Region.ready .any ops listed := by
          refine (mem_ready' hv).2 ⟨h2, ops[i0], Array.getElem?_eq_getElem h1, fun k hk => ?_⟩
          have hk' := (hf i0 _ (Nat.zero_le _) (Array.getElem?_eq_getElem h1)).1 k hk
          refine lst k (by omega) fun hkl => ?_
          rcases List.mem_cons.1 hkl with rfl | hkl
          · omega
          · have := (List.pairwise_cons.1 hs).1 k hkl
            omega
        rw [hready] at hi0
        simp at hi0
    · intro i hi
      obtain ⟨h1, o, h2, h3⟩ := (mem_ready' hv).1 hi
      have hilt := (Array.getElem?_eq_some_iff.1 h2).1
      have hil : i ∈ l := (hm i).2 ⟨hilt, h1⟩
      obtain ⟨l1, l2, rfl⟩ := List.append_of_mem hil
      have hs' := List.pairwise_append.1 hs
      have hoff : ∀ x ∈ l1, Off ops N0 fp x i := by
        intro x hx
        have hxi : x < i := hs'.2.2 x hx i (by simp)
        rcases (hf i o (Nat.zero_le _) h2).2 x hxi with ha | ha
        · exfalso
          have := ha.listed (L := fun j => listed.getD j false = true) hc (fun o' k ho' hk => by
            rw [h2] at ho'
            injection ho' with ho'
            subst ho'
            exact h3 k hk)
          have hx2 := ((hm x).1 (by simp [hx])).2
          have hx3 : x < listed.size := by
            have := ((hm x).1 (by simp [hx])).1
            omega
          simp only [Array.getD_eq_getD_getElem?, Array.getElem?_eq_getElem hx3, Option.getD_some] at this hx2
          rw [this] at hx2
          cases hx2
        · exact ha
      obtain ⟨T', H', ⟨o', b, d1, d2, d3, d4⟩, hrun⟩ := ahead hoff hr
      rw [h2] at d1
      injection d1 with d1
      subst d1
      have next : ∀ (T1 : TF) (a1 : Act) (s1 : S4), Fr B s0 nt T1 a1 s1 → (∀ k, s1.U k → s.U k ∨ (N0 + 16 * i ≤ k ∧ k < N0 + 16 * i + 16) ∨ s.H.nx ≤ k) → s.H.nx ≤ s1.H.nx → Run E S ops nt N0 fp (fun T H => K T H = some r) (l1 ++ l2) T1 s1.H →
          wpAny P .any ops Q fuel (listed.setIfInBounds i true) a1 s1.W := by
        intro T1 a1 s1 hF hU hnx' hR
        have hnd : ∀ x ∈ l1 ++ l2, x ≠ i := by
          intro x hx
          rcases List.mem_append.1 hx with hx | hx
          · exact Nat.ne_of_lt (hs'.2.2 x hx i (by simp))
          · exact Nat.ne_of_gt ((List.pairwise_cons.1 hs'.2.1).1 x hx)
        refine ih (l1 ++ l2) _ T1 a1 s1 ?_ ?_ (by simpa using hsz) ?_ ?_ hF (by omega) ?_ hR
        · simp at hl ⊢; omega
        · exact List.pairwise_append.2 ⟨hs'.1, (List.pairwise_cons.1 hs'.2.1).2, fun x hx y hy => hs'.2.2 x hx y (by simp [hy])⟩
        · intro j
          by_cases hj : j = i
          · subst hj
            have hlt : j < listed.size := by omega
            constructor
            · intro hx; exact absurd rfl (hnd j hx)
            · rintro ⟨_, hx⟩
              simp [hlt] at hx
          · rw [getD_set_ne true (Ne.symm hj), ← hm j]
            simp [hj]
        · intro q oq j hoq hq hj
          by_cases hqi : q = i
          · subst hqi
            rw [h2] at hoq
            injection hoq with hoq
            subst hoq
            exact getD_set_true (h3 j hj)
          · rw [getD_set_ne false (Ne.symm hqi)] at hq
            exact getD_set_true (hc q oq j hoq hq hj)
        · intro x hx k hk1 hk2 hk
          have hne := hnd x hx
          have hxl : x ∈ l1 ++ i :: l2 := by
            rcases List.mem_append.1 hx with hx | hx
            · simp [hx]
            · simp [hx]
          have hxs := ((hm x).1 hxl).1
          rcases hU k hk with hk | hk | hk
          · exact hu x hxl k hk1 hk2 hk
          · omega
          · have : 16 * (x + 1) ≤ 16 * ops.size := Nat.mul_le_mul_left _ hxs
            omega
      unfold wpOp
      rw [h2]
      have hw : Region.wanted o (yielded ops a.tmps) = b := by
        unfold Wants at d3
        split at d3
        · rename_i hg; simp [Region.wanted, hg, d3]
        · rename_i j want hg
          obtain ⟨g, g1, ⟨c, g2, rfl⟩ | ⟨g2, rfl⟩⟩ := d3
          · have hy := yielded_at hv h g1 g2
            simp [Region.wanted, hg, hy]
          · have hy := unyielded_at hv h g1 g2
            simp [Region.wanted, hg, hy]
      rcases d4 with ⟨rfl, v, d5, rfl⟩ | ⟨rfl, rfl, rfl⟩
      · simp only [hw, if_true]
        left
        classical
        have hki := hu i (by simp)
        have : 16 * (i + 1) ≤ 16 * ops.size := Nat.mul_le_mul_left _ hilt
        refine step_ok hv (key := N0 + 16 * i) (K := fun T1 H1 => if Run E S ops nt N0 fp (fun T H => K T H = some r) (l1 ++ l2) T1 H1 then some r else none) (r := r) h hki (by omega) (by omega) ?_ ?_
        · rw [stepK_of hv d5, if_pos hrun]
        · intro a' T1 t hF hU hnx' hKr
          refine next T1 a' t hF hU hnx' ?_
          split at hKr
          · assumption
          · cases hKr
      · simp only [hw]
        obtain ⟨p1, p2⟩ := put_tmps a o.dst undef
        exact next _ (a.put o.dst undef) s ⟨h.m, h.x, trel_put h.t h.n (relV_skip hv), p1.trans h.d, p2.trans h.n, h.u⟩ (fun k hk => .inl hk) (Nat.le_refl _) hrun

theorem any_ok (hm : P.follows .mixedOrders = true) {id : Nat} {ops : Array Oper} {T : TF} {a : Act} {s : S4} {Q : Exit → Act → World → Prop} {K : TF → HF → Option β} {r : β} (h : Fr B s0 nt T a s)
    (hK : runAny E S nt ops ops.toList 0 s.H.nx [] T { s.H with nx := s.H.nx + 16 * ops.size } K = some r) (hQ : ∀ a' T' t, Fr B s0 nt T' a' t → K T' t.H = some r → Q .normal a' t.W) :
    (Code.region id ops true).wp P Q a s.W := by
  refine wp_region_any hm ?_
  let s1 : S4 := { s with W := { s.W with drawn := s.W.drawn + 1 }, H := { s.H with nx := s.H.nx + 16 * ops.size } }
  have x : Ext B s s1 := ⟨fun _ h => h, fun _ h => .inl h, fun _ _ => rfl, ⟨rfl, rfl, rfl, Nat.le_refl _, fun _ _ => rfl⟩, fun _ h => h, Nat.le_add_right _ _, fun k c _ hc => ⟨c, hc, rfl, rfl⟩, fun k r _ hr => ⟨r, hr, rfl, rfl, rfl, fun _ _ _ => rfl⟩⟩
  have m : MemOk B s1 := by
    refine ⟨h.m.ilt, h.m.bsz, fun k hk => Nat.lt_of_lt_of_le (h.m.un k hk) (Nat.le_add_right _ _), fun k c hc => ?_, fun k r' hr => ?_, h.m.vv, h.m.rr, h.m.vr⟩
    · obtain ⟨h1, h2, h3, cs, t, h4, h5⟩ := h.m.var k c hc
      exact ⟨h1, h2, h3, cs, t, h4, RelC.ext x h5⟩
    · obtain ⟨h1, h2, h3⟩ := h.m.row k r' hr
      refine ⟨h1, h2, h3.imp (fun q => q) ?_⟩
      rintro ⟨b, base, cur, t, e1, e2, e3, e4, e5, e6⟩
      refine ⟨b, base, cur, t, e1, e2, e3, e4, e5, fun i y hi => ?_⟩
      obtain ⟨c, g1, g2⟩ := e6 i y hi
      exact ⟨c, g1.mono x.i x.w, g2⟩
  obtain ⟨fp, _, hrun, hfacts⟩ := any_run (N0 := s.H.nx) ops.toList 0 [] T { s.H with nx := s.H.nx + 16 * ops.size } rfl ⟨fun p hp => by simp at hp, fun j hj => by omega, fun _ => [], fun p hp => by simp at hp⟩ (by simpa using hK)
  refine any_wp hv (s0 := s0) h.x.nx hfacts (r := r) (K := K) hQ ops.size (List.range' 0 ops.size) (Array.replicate ops.size false) T a s1 (by simp) (List.pairwise_lt_range' ..) (by simp) ?_ ?_ ⟨m, h.x.trans x, h.t.ext x, h.d, h.n, h.u⟩ (Nat.le_refl _) ?_ (by simpa using hrun)
  · intro i
    by_cases hi : i < ops.size
    · simp [hi]
    · simp [hi]
  · intro i o j ho hl _
    exfalso
    have hi := (Array.getElem?_eq_some_iff.1 ho).1
    simp [hi] at hl
  · intro i hi k hk1 hk2 hk
    have := h.m.un k hk
    omega
end
end Go.Proofs.YtdfhopakojmjkaaDoor.Den
