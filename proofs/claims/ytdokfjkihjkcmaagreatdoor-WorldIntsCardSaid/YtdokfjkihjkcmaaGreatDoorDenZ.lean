/- The library, part Z: a run of the model, told by an evaluator, with its proof. -/
import Derived.Test.YtdokfjkihjkcmaaGreatDoorDenP
import Derived.RangeFuncRecord
import Derived.RangeFuncCalls
import Derived.OrdersIn
import Derived.Orders
/- A region, operation by operation; blocks, loops: the walk. -/
namespace Go.Proofs.YtdokfjkihjkcmaaGreatDoor.Den
open Go Go.RowKit
set_option linter.unusedVariables false
set_option linter.unusedSectionVars false
theorem put_tmps (a : Act) (dst : Option Tmp) (v : Value) : (a.put dst v).defers = a.defers ∧ (a.put dst v).tmps.size = a.tmps.size := by
 cases dst with
 | none => exact ⟨rfl, rfl⟩
 | some d => exact ⟨rfl, by simp [Act.put]⟩
theorem trel_upd {s : S4} {T : TF} {tmps : Array Value} {d : Nat} {v : V} {x : Value} (h : TRel s T tmps) (hv : RelV s v x) (hd : d < tmps.size) : TRel s (upd T d v) (tmps.setIfInBounds d x) := by
 refine ⟨fun i => ?_, h.gl⟩
 unfold upd
 by_cases e : i = d
 ·subst e
  simp [Array.getD_eq_getD_getElem?, hd]
  exact hv
 ·simp [nbeq e, Array.getD_eq_getD_getElem?, Array.getElem?_setIfInBounds_ne (Ne.symm e)]
  have := h.tmp i
  rw [Array.getD_eq_getD_getElem?] at this
  exact this
theorem trel_put {s : S4} {T : TF} {a : Act} {dst : Option Tmp} {v : V} {x : Value} {nt : Nat} (h : TRel s T a.tmps) (hn : a.tmps.size = nt) (hv : RelV s v x) : TRel s (putT nt T dst v) (a.put dst x).tmps := by
 cases dst with
 | none => exact h
 | some d =>
  cases hb : Nat.blt d nt with
  | true =>
   have hd : d < a.tmps.size := by rw [hn]; simpa [Nat.blt_eq] using hb
   have e : putT nt T (some d) v = upd T d v := by simp only [putT, hb]; rfl
   rw [e]
   exact trel_upd h hv hd
  | false =>
   have hd : ¬ d < a.tmps.size := by
    rw [hn]
    intro hlt
    have : Nat.blt d nt = true := by simpa [Nat.blt_eq] using hlt
    rw [hb] at this
    cases this
   have e : putT nt T (some d) v = T := by simp only [putT, hb]; rfl
   rw [e]
   show TRel s T (a.tmps.setIfInBounds d x)
   rw [Array.setIfInBounds_eq_of_size_le (Nat.le_of_not_lt hd)]
   exact h
theorem trel_same {s : S4} {T : TF} {tmps : Array Value} {g : Nat} {b : Bool} (h : TRel s T tmps) (hg : T g = .d .bool b) : TRel s (upd T g (.d .bool b)) tmps := by
 refine ⟨fun i => ?_, h.gl⟩
 have : upd T g (.d .bool b) i = T i := by
  unfold upd
  by_cases e : i = g
  ·subst e
   simp [hg]
  ·simp [nbeq e]
 rw [this]
 exact h.tmp i
def FR (ro : Option Nat) : Fence := { Fence.wide with round := ro }
theorem calls_FR {P : Program} {f : FuncId} {args : Array Value} {w : World} {R : Ending → World → Prop} (ro : Option Nat) (n : Nat) (h : Calls P f args w R) : CallsIn (FR ro) n P f args w R :=
 (callsIn_wide (n := n)).2 h
theorem FR_calls {P : Program} {f : FuncId} {args : Array Value} {w : World} {R : Ending → World → Prop} {ro : Option Nat} {n : Nat} (h : CallsIn (FR ro) n P f args w R) : Calls P f args w R :=
 (callsIn_wide (n := n)).1 h
def RoundOk (P : Program) (B : Nat) (s : S4) (l : Nat) (r : Loop) (args : List Value) (R : S4 → Value → Prop) : Prop :=
 args.length = r.params.size ∧ RoundIn Fence.wide 0 P l r.fn ((r.params.zip args.toArray).foldl (fun tmps (t, a) => tmps.setIfInBounds t a) r.tmps) r.assign r.body s.W fun e W' =>
  ∃ t x, e = .returned x ∧ t.W = W' ∧ MemOk B t ∧ Ext B s t ∧ R t x
structure InlOk {β : Type} (P : Program) (inl : FuncId → V → HF → (V → HF → Option β) → Option β) : Prop where
 fn : ∀ (f : FuncId) (args : V) (B : Nat) (s : S4) (l : List Value) (K : V → HF → Option β) (r : β), inl f args s.H K = some r → MemOk B s → GlobW s.W s.I → B ≤ s.cur → RelVL s args l →
  CallOk P B s f l.toArray fun t x => (∀ k, t.U k → s.U k ∨ s.H.nx ≤ k) ∧ ∃ v, RelV t v x ∧ K v t.H = some r
 rd : ∀ (f : FuncId) (vals ws : V) (B : Nat) (s : S4) (l : Nat) (lr : Loop) (q : RF) (args : List Value) (K : V → HF → Option β) (r : β), inl f (.tup (.cons vals (.cons ws .nil))) s.H K = some r → MemOk B s → GlobW s.W s.I → B ≤ s.cur → s.H.dn = false →
  YldAt s f vals l lr q → RelVL0 s ws args → RoundOk P B s l lr args fun t x => (∀ k, t.U k → s.U k ∨ s.H.nx ≤ k) ∧ ∃ v, RelV t v x ∧ K v t.H = some r
theorem app_rel {s : S4} : ∀ {a b : V} {l m : List Value}, RelVL s a l → RelVL s b m → RelVL s (appV a b) (l ++ m)
 | .cons a c, b, l, m, h1, h2 => by
  obtain ⟨x, r, rfl, g1, g2⟩ := h1
  exact ⟨x, r ++ m, rfl, g1, app_rel g2 h2⟩
 | .nil, b, l, m, h1, h2 => by
  simp only [RelVL] at h1
  subst h1
  exact h2
 | .d _ _, _, _, _, h1, _ => by simp only [RelVL] at h1
 | .nilsl, _, _, _, h1, _ => by simp only [RelVL] at h1
 | .dfull _ _, _, _, _, h1, _ => by simp only [RelVL] at h1
 | .row _, _, _, _, h1, _ => by simp only [RelVL] at h1
 | .rsub _ _ _, _, _, _, h1, _ => by simp only [RelVL] at h1
 | .pvar _ _, _, _, _, h1, _ => by simp only [RelVL] at h1
 | .prow _ _ _, _, _, _, h1, _ => by simp only [RelVL] at h1
 | .pdeep _ _, _, _, _, h1, _ => by simp only [RelVL] at h1
 | .fn _ _ _, _, _, _, h1, _ => by simp only [RelVL] at h1
 | .tup _, _, _, _, h1, _ => by simp only [RelVL] at h1
 | .mp _, _, _, _, h1, _ => by simp only [RelVL] at h1
 | .mapd _ _, _, _, _, h1, _ => by simp only [RelVL] at h1
 | .hrow _ _ _ _ _, _, _, _, h1, _ => by simp only [RelVL] at h1
 | .str _, _, _, _, h1, _ => by simp only [RelVL] at h1
 | .drow _ _ _ _ _, _, _, _, h1, _ => by simp only [RelVL] at h1
 | .dsl _ _ _ _, _, _, _, h1, _ => by simp only [RelVL] at h1
 | .dpi _ _ _ _ _, _, _, _, h1, _ => by simp only [RelVL] at h1
 | .undef, _, _, _, h1, _ => by simp only [RelVL] at h1
theorem relL_vl {s : S4} : ∀ {a : V} {l : List Value}, RelL s a l → RelVL s a l
 | .cons a b, l, h => by
  simp only [RelL] at h
  obtain ⟨v, r, cs, rfl, h1, h2, h3⟩ := h
  exact ⟨v, r, rfl, .inr ⟨cs, relT_of h1, h2⟩, relL_vl h3⟩
 | .nil, l, h => by simp only [RelL] at h; exact h
 | .d _ _, _, h => by simp only [RelL] at h
 | .nilsl, _, h => by simp only [RelL] at h
 | .dfull _ _, _, h => by simp only [RelL] at h
 | .row _, _, h => by simp only [RelL] at h
 | .rsub _ _ _, _, h => by simp only [RelL] at h
 | .pvar _ _, _, h => by simp only [RelL] at h
 | .prow _ _ _, _, h => by simp only [RelL] at h
 | .pdeep _ _, _, h => by simp only [RelL] at h
 | .fn _ _ _, _, h => by simp only [RelL] at h
 | .tup _, _, h => by simp only [RelL] at h
 | .mp _, _, h => by simp only [RelL] at h
 | .mapd _ _, _, h => by simp only [RelL] at h
 | .hrow _ _ _ _ _, _, h => by simp only [RelL] at h
 | .str _, _, h => by simp only [RelL] at h
 | .drow _ _ _ _ _, _, h => by simp only [RelL] at h
 | .dsl _ _ _ _, _, h => by simp only [RelL] at h
 | .dpi _ _ _ _ _, _, h => by simp only [RelL] at h
 | .undef, _, h => by simp only [RelL] at h
theorem RelV.to1 {s : S4} {v : V} {x : Value} (h : RelV s v x) (hn : ∀ w, v ≠ .tup w) : RelV1 s v x := by
 cases v with
 | tup w => exact absurd rfl (hn w)
 | _ => exact h
theorem first_app (v : Value) (l : Array Value) : (#[v] ++ l)[0]? = some v := by
 rw [Array.getElem?_append_left (by simp)]
 rfl
theorem run_method {P : Program} {t f : Nat} {name : String} (h : MethFact P t name f none) (W : World) (X : Value) (n : Nat) : (method (n + 1) t X name).run P W = .ok (f, X) W := by
 obtain ⟨i, m, p, hi, hm, hp, hf, d, hd, hpt⟩ := h.row
 have hti : (typeInfo t).run P W = .ok i W := by simp [typeInfo, hi]
 unfold method
 simp only [Sem.run_bind, hti, Result.andThen_ok, hm, hp, hf, follow, Sem.run_pure]
 have : ∀ wr, (receiverAt t (.val X) p wr).run P W = .ok X W := by
  intro wr
  unfold receiverAt
  simp only [Sem.run_bind, run_underlying hd, Result.andThen_ok]
  cases p with
  | true => cases d <;> simp [isPtr] at hpt <;> simp [Place.get]
  | false => cases d <;> simp [isPtr] at hpt <;> simp [Place.get]
 simp [this]
theorem run_methodPtr {P : Program} {t f e : Nat} {name : String} (h : MethFact P t name f (some e)) (W : World) (ad : Addr) (Y : Value) (hl : (loadVar e ad).run P W = .ok Y W) (n : Nat) : (method (n + 1) t (.pointer (some ad)) name).run P W = .ok (f, Y) W := by
 obtain ⟨i, m, p, hi, hm, hp, hf, hd, rfl⟩ := h.row
 have hti : (typeInfo t).run P W = .ok i W := by simp [typeInfo, hi]
 unfold method
 simp only [Sem.run_bind, hti, Result.andThen_ok, hm, hp, hf, follow, Sem.run_pure]
 have : ∀ wr, (receiverAt t (.val (.pointer (some ad))) false wr).run P W = .ok Y W := by
  intro wr
  unfold receiverAt
  simp only [Sem.run_bind, run_underlying hd, Result.andThen_ok, Place.get, Sem.run_pure]
  cases wr with
  | none => simp [asAddr, hl]
  | some nm =>
   have hw : (Builtin.ssaWrapNilChk_ #[t] t #[.pointer (some ad), strVal "", strVal nm]).run P W = .ok (.pointer (some ad)) W := rfl
   simp [hw, asAddr, hl]
 simp [this]
theorem loadAt_ptr {P : Program} {W : World} {e : Nat} {X Y : Value} (h : (Instr.loadAt e X).run P W = .ok Y W) : ∃ ad, X = .pointer (some ad) ∧ (loadVar e ad).run P W = .ok Y W := by
 unfold Instr.loadAt at h
 unfold Instr.sureAddr at h
 split at h
 ·rename_i ad
  exact ⟨ad, rfl, by simpa using h⟩
 ·simp [stuck] at h
structure Env {β : Type} (P : Program) (E : TE) (S : FuncId → Option Sum) (inl : FuncId → V → HF → (V → HF → Option β) → Option β) : Prop where
 E : TEok P E
 S : ∀ f sm, S f = some sm → SemOf P f sm
 inl : InlOk P inl
def Marks (ro : Option Nat) (s0 s : S4) (ds : List Deferred) : Prop := match ro with
 | some _ => ds = []
 | none => ∃ bs : List Nat, ds = bs.map (fun b => { target := .collected b, args := #[] }) ∧ bs.Nodup ∧ ∀ b ∈ bs, s0.W.heap.size ≤ b ∧ s.I b ∧ s.W.heap[b]? = some (.deferred (some []))
theorem Marks.ext {ro : Option Nat} {B : Nat} {s0 s t : S4} (e : Ext B s t) {ds : List Deferred} (h : Marks ro s0 s ds) : Marks ro s0 t ds := by
 cases ro with
 | some l => exact h
 | none =>
  obtain ⟨bs, h1, h2, h3⟩ := h
  exact ⟨bs, h1, h2, fun b hb => ⟨(h3 b hb).1, e.i b (h3 b hb).2.1, (e.w b (h3 b hb).2.1).obj (h3 b hb).2.2 (by intro r h; cases h)⟩⟩
theorem Marks.nil (ro : Option Nat) (s0 s : S4) : Marks ro s0 s [] := by
 cases ro with
 | some l => rfl
 | none => exact ⟨[], rfl, List.nodup_nil, fun b hb => by cases hb⟩
structure Fr (ro : Option Nat) (B : Nat) (s0 : S4) (nt : Nat) (T : TF) (a : Act) (s : S4) : Prop where
 m : MemOk B s
 x : Ext B s0 s
 t : TRel s T a.tmps
 d : Marks ro s0 s a.defers
 n : a.tmps.size = nt
 u : ∀ k, s.U k → s0.U k ∨ s0.H.nx ≤ k
section
variable {β : Type} {P : Program} {E : TE} {S : FuncId → Option Sum} {inl : FuncId → V → HF → (V → HF → Option β) → Option β} (hv : Env P E S inl) {B : Nat} {s0 : S4} {nt : Nat} {ro : Option Nat}
include hv
theorem notup {T : TF} {o : Operand} : noTup (evO T o) = true → ∀ w, evO T o ≠ .tup w := by
 intro h w e
 rw [e] at h
 cases h
theorem listVL0 {T : TF} {a : Act} {s : S4} (hT : TRel s T a.tmps) : ∀ (l : List Operand), noYs (aop.listV T l) = true → RelVL0 s (aop.listV T l) (l.map a.eval)
 | [], _ => rfl
 | x :: l, h => by
  simp only [aop.listV, noYs, Bool.and_eq_true, Bool.not_eq_true'] at h
  exact ⟨_, _, rfl, ((evO_rel hT x).to1 (notup hv h.1.1)).to0 h.1.2, listVL0 hT l h.2⟩
theorem listVL {T : TF} {a : Act} {s : S4} (hT : TRel s T a.tmps) : ∀ (l : List Operand), noTups (aop.listV T l) = true → RelVL s (aop.listV T l) (l.map a.eval)
 | [], _ => rfl
 | x :: l, h => by
  simp only [aop.listV, noTups, Bool.and_eq_true] at h
  exact ⟨_, _, rfl, (evO_rel hT x).to1 (notup hv h.1), listVL hT l h.2⟩
theorem asFn_rel {s : S4} {v : V} {x : Value} (h : RelV s v x) : RelV s v.asFn x := by
 unfold V.asFn
 split
 ·rename_i n
  obtain ⟨cs, hr, hv'⟩ := h.get (by intro h; cases h) (by intro w h; cases h)
  simp only [RelC, RelD] at hr
  subst hr
  have := isVal_one hv' rfl
  subst this
  refine .inr ⟨[_], relT_of ?_, rfl⟩
  simp only [RelC]
  exact .inr ⟨[], [], rfl, by simp only [RelL], by simp only [RelL]⟩
 ·exact h
theorem step_ok (hc0 : B ≤ s0.cur) {T : TF} {a : Act} {s : S4} (h : Fr ro B s0 nt T a s) {key : Nat} (hu : ∀ k, key ≤ k → k < key + 16 → ¬ s.U k) (hk : key + 16 ≤ s.H.nx) (hkey : s0.H.nx ≤ key) {o : Oper} {K : TF → HF → Option β} {r : β} (hK : stepK E S inl nt key o T s.H K = some r)
  {next : Act → World → Prop} {Q : Exit → Act → World → Prop} (hn : ∀ a' T' t, Fr ro B s0 nt T' a' t → (∀ k, t.U k → s.U k ∨ (key ≤ k ∧ k < key + 16) ∨ s.H.nx ≤ k) → s.H.nx ≤ t.H.nx → K T' t.H = some r → next a' t.W) : o.wpIn (FR ro) 0 P a s.W next Q := by
 have hcB : B ≤ s.cur := by rw [h.x.cu]; exact hc0
 have hnd : ∀ c, o.op ≠ .defer c := by
  intro c hc
  unfold stepK at hK
  rw [hc] at hK
  cases hK
 have enter : ∀ {X : Result Next}, (execOp a.eval o).run P s.W = X → o.uponIn (FR ro) 0 P a next Q X → o.wpIn (FR ro) 0 P a s.W next Q := by
  intro X e hX
  refine ⟨fun _ _ => trivial, ?_⟩
  rw [Oper.semAt_eq _ _ _ hnd, e]
  exact hX
 have fin : ∀ (t : S4) (v : V) (x : Value), MemOk B t → Ext B s t → (∀ k, t.U k → s.U k ∨ (key ≤ k ∧ k < key + 16) ∨ s.H.nx ≤ k) → RelV t v x → K (putT nt T o.dst v) t.H = some r → next (a.put o.dst x) t.W := by
  intro t v x hm hx hU hr hKr
  obtain ⟨p1, p2⟩ := put_tmps a o.dst x
  exact hn _ _ t ⟨hm, h.x.trans hx, trel_put (h.t.ext hx) h.n hr, by rw [p1]; exact h.d.ext hx, p2.trans h.n, fun k hk => by
   rcases hU k hk with hk | hk | hk
   ·exact h.u k hk
   ·exact .inr (Nat.le_trans hkey hk.1)
   ·exact .inr (Nat.le_trans h.x.nx hk)⟩ hU hx.nx hKr
 have ofOp : ∀ v H', OpOk B s key ((execOp a.eval o).run P s.W) v H' → K (putT nt T o.dst v) H' = some r → o.wpIn (FR ro) 0 P a s.W next Q := by
  rintro v H' ⟨t, rfl, hm, hx, hU, hres⟩ hKr
  rcases hres with ⟨x, hrun, hr⟩ | ⟨hrun, rfl⟩
  ·refine enter hrun ?_
   exact fin t v x hm hx (fun k hk => (hU k hk).imp id .inl) hr hKr
  ·refine enter hrun ?_
   exact fin t .undef undef hm hx (fun k hk => (hU k hk).imp id .inl) relV_undef hKr
 have hu0 : ¬ s.U key := hu key (Nat.le_refl _) (by omega)
 have hk0 : key < s.H.nx := by omega
 unfold stepK at hK
 split at hK
 ·rename_i c hc
  have hex : execOp a.eval o = (do let d ← resolve a.eval c o.type; invoke d.target d.args : Sem Next) := by simp only [execOp, hc]
  unfold callK at hK
  split at hK
  ·rename_i b hb
   obtain ⟨v, H', hto, hKr⟩ := Res.run_to hK
   refine ofOp v H' ?_ hKr
   rw [hex]
   exact abuiltin_ok hv.E h.m hu0 hk0 hu hk h.t hb hto
  ·rename_i x hcx
   split at hK
   ·rename_i f first caps hf
    have hrel : RelV s _ (a.eval x) := hf ▸ asFn_rel hv (evO_rel h.t x)
    split at hK
    ·rename_i hY
     split at hK
     case h_2 => cases hK
     rename_i hnt
     simp only [Bool.and_eq_true, Bool.not_eq_true'] at hnt
     obtain ⟨hnt, hdn⟩ := hnt
     obtain ⟨w, rfl⟩ : ∃ w, caps = .tup w := by
      cases caps <;> simp [V.isY] at hY
      exact ⟨_, rfl⟩
     rcases hrel with hrel | ⟨cs, ⟨_, l, lr, q, rfl, hy⟩, g2⟩
     ·cases hrel
     have ex := isVal_one g2 rfl
     obtain ⟨hlen, hround⟩ := hv.inl.rd f first _ B s l lr q _ _ r hK h.m h.t.gl hcB hdn hy (listVL0 hv h.t _ hnt)
     have hrun : (execOp a.eval o).run P s.W = .ok (.round l lr.fn ((lr.params.zip (c.args.toList.map a.eval).toArray).foldl (fun tmps (t, a) => tmps.setIfInBounds t a) lr.tmps) lr.assign lr.body) s.W := by
      rw [hex]
      have ea : c.args.map a.eval = (c.args.toList.map a.eval).toArray := by apply Array.ext'; simp
      rw [← run_yield (P := P) (args := (c.args.toList.map a.eval).toArray) (hy.w hdn) (by simpa using hlen), ← ea]
      simp [resolve, hcx, ex, Deferred.ofValue, invoke]
     refine enter hrun ?_
     refine ⟨fun h => (by cases h), ?_⟩
     refine RoundIn.mono (show RoundIn (FR ro) 0 P _ _ _ _ _ _ _ from hround) ?_
     rintro e W' ⟨t, x, rfl, rfl, hm, hx, hU, v, hr, hKr⟩
     exact fin t v x hm hx (fun k hk => (hU k hk).imp id .inr) hr hKr
    rename_i hnY
    obtain ⟨cs, g1, g2⟩ := hrel.get (by intro h; cases h) (by intro w h; cases h) hnY
    have hcu : caps.isU = false := by
     cases hu' : caps.isU with
     | false => rfl
     | true =>
      have : caps = .undef := by cases caps <;> simp [V.isU] at hu'; rfl
      subst this
      cases hS : S f with
      | some sm =>
       rw [hS] at hK
       cases first <;> simp at hK
      | none =>
       rw [hS] at hK
       simp [V.isU] at hK
    obtain ⟨l, m, rfl, hl, hm⟩ := relC_fn g1 hcu
    have ex := isVal_one g2 rfl
    have hrun : ∀ W, ((execOp a.eval o).run P W) = (callFunc f (l.toArray ++ c.args.map a.eval ++ m.toArray)).run P W := by
     intro W
     rw [hex]
     simp [resolve, hcx, ex, Deferred.ofValue, invoke]
    have ofCall : ∀ {R : S4 → Value → Prop}, CallOk P B s f (l.toArray ++ c.args.map a.eval ++ m.toArray) R → (∀ t x, MemOk B t → Ext B s t → R t x → next (a.put o.dst x) t.W) → o.wpIn (FR ro) 0 P a s.W next Q := by
     intro R hc' hR
     refine enter ((hrun _).trans (hc'.1.run _ _)) ?_
     refine ⟨fun h => (by cases h), calls_FR ro 0 (Calls.mono hc'.2 ?_)⟩
     rintro e W' ⟨t, x, rfl, rfl, hm, hx, hr⟩
     exact hR t x hm hx hr
    split at hK
    ·rename_i sm hsm
     split at hK
     ·obtain ⟨v, H', hto, hKr⟩ := Res.run_to hK
      simp only [RelL] at hl hm
      subst hl hm
      have := asum_ok (hv.S f sm hsm) h.m hu hk h.t hto
      have ea : ([] : List Value).toArray ++ c.args.map a.eval ++ ([] : List Value).toArray = (c.args.toList.map a.eval).toArray := by apply Array.ext'; simp
      refine ofCall (by rw [ea]; exact this) ?_
      rintro t x hm hx ⟨rfl, hU, hr⟩
      exact fin t v x hm hx (fun k hk => (hU k hk).imp id .inl) hr hKr
     ·cases hK
    ·split at hK
     ·rename_i hnt
      simp only [Bool.and_eq_true] at hnt
      have := hv.inl.fn f _ B s _ _ r hK h.m h.t.gl hcB (app_rel (relL_vl hl) (app_rel (listVL hv h.t _ hnt.1) (relL_vl hm)))
      have ea : l.toArray ++ c.args.map a.eval ++ m.toArray = (l ++ (c.args.toList.map a.eval ++ m)).toArray := by apply Array.ext'; simp
      refine ofCall (by rw [ea]; exact this) ?_
      rintro t x hm hx ⟨hU, v, hr, hKr⟩
      exact fin t v x hm hx (fun k hk => (hU k hk).imp id .inr) hr hKr
     ·cases hK
   ·cases hK
  ·rename_i x name hcx
   split at hK
   case h_2 => cases hK
   rename_i g v hg
   obtain ⟨cs, g1, g2⟩ := (evO_is h.t hg).get (by intro h; cases h) (by intro w h; cases h)
   obtain ⟨X, cx, rfl, hr, hX⟩ := relC_ifc g1
   have ex := isVal_one g2 rfl
   have hvX : RelV1 s v X := .inr ⟨cx, relT_of hr, hX⟩
   -- the method's function is entered
   have ofMet : ∀ (f : FuncId) (w : V) (Y : Value) (H' : HF), H' = s.H → metK S inl f (.cons w (aop.listV T c.args.toList)) key H' (fun v H' => K (putT nt T o.dst v) H') = some r →
     (RelV s w Y) → (∀ n, (method (n + 1) g X name).run P s.W = .ok (f, Y) s.W) → o.wpIn (FR ro) 0 P a s.W next Q := by
    intro f w Y H' eH hK hw hm
    subst eH
    unfold metK at hK
    split at hK
    case h_2 => cases hK
    rename_i hnt
    simp only [noTups, Bool.and_eq_true] at hnt
    have hw1 : RelV1 s w Y := hw.to1 (fun q e => by have := hnt.1; rw [e] at this; cases this)
    have hargs : RelVL s (.cons w (aop.listV T c.args.toList)) (Y :: c.args.toList.map a.eval) := ⟨Y, _, rfl, hw1, listVL hv h.t _ hnt.2⟩
    have hrun : ((execOp a.eval o).run P s.W) = (callFunc f (Y :: c.args.toList.map a.eval).toArray).run P s.W := by
     rw [hex]
     obtain ⟨n, hn⟩ : ∃ n, P.types.size + Made.depth = n + 1 := ⟨P.types.size + 99, by simp [Made.depth]⟩
     have e0 : (c.args.map a.eval).toList = c.args.toList.map a.eval := by simp
     have e1 : #[Y] ++ (#[(.iface g X : Value)] ++ c.args.map a.eval).extract 1 (#[(.iface g X : Value)] ++ c.args.map a.eval).size = (Y :: c.args.toList.map a.eval).toArray := by
      apply Array.ext'
      simp
      exact List.take_of_length_le (by simp)
     simp only [resolve, hcx, ex, Sem.run_bind, Sem.run_pure, Result.andThen_ok]
     have e2 : (#[(.iface g X : Value)] ++ c.args.map a.eval)[0]? = some (.iface g X) := first_app _ _
     unfold invoke
     simp only [e2]
     simp only [callMethod, Sem.run_bind, run_program, Result.andThen_ok, hn, hm, e1]
    have ofCall : ∀ {R : S4 → Value → Prop}, CallOk P B s f (Y :: c.args.toList.map a.eval).toArray R → (∀ t x, MemOk B t → Ext B s t → R t x → next (a.put o.dst x) t.W) → o.wpIn (FR ro) 0 P a s.W next Q := by
     intro R hc' hR
     refine enter (hrun.trans (hc'.1.run _ _)) ?_
     refine ⟨fun h => (by cases h), calls_FR ro 0 (Calls.mono hc'.2 ?_)⟩
     rintro e W' ⟨t, x, rfl, rfl, hm, hx, hr⟩
     exact hR t x hm hx hr
    split at hK
    ·rename_i sm hsm
     obtain ⟨v', H', hto, hKr⟩ := Res.run_to hK
     refine ofCall (asumV_ok (hv.S f sm hsm) h.m hu hk h.t.gl (fun hd hJ => argsVL_rel h.m hargs hd hJ) hto) ?_
     rintro t x hm hx ⟨rfl, hU, hr⟩
     exact fin t v' x hm hx (fun k hk => (hU k hk).imp id .inl) hr hKr
    ·refine ofCall (hv.inl.fn f _ B s _ _ r hK h.m h.t.gl hcB hargs) ?_
     rintro t x hm hx ⟨hU, v', hr, hKr⟩
     exact fin t v' x hm hx (fun k hk => (hU k hk).imp id .inr) hr hKr
   split at hK
   ·rename_i f hme
    exact ofMet f v X s.H rfl hK hvX.toV (fun n => run_method (hv.E.meth _ _ _ _ hme) s.W X n)
   ·rename_i f e hme
    obtain ⟨w, H', hto, hKr⟩ := Res.run_to hK
    obtain ⟨rfl, Y, hY, hrY⟩ := loadV_ok hv.E h.m hvX.toV hto
    obtain ⟨ad, rfl, hl⟩ := loadAt_ptr hY
    exact ofMet f w Y s.H rfl hKr hrY (fun n => run_methodPtr (hv.E.meth _ _ _ _ hme) s.W ad Y hl n)
   ·cases hK
 ·rename_i hnc
  obtain ⟨v, H', hto, hKr⟩ := Res.run_to hK
  exact ofOp v H' (aopS_ok hv.E h.m hu0 hk0 hu hk h.t hto) hKr
theorem yielded_at {T : TF} {a : Act} {s : S4} (h : Fr ro B s0 nt T a s) {ops : Array Oper} {j g : Nat} {b : Bool} (hj : gtmp ops j = some g) (hg : T g = .d .bool b) : yielded ops a.tmps j = some b := by
 have h1 := relV_bool (hg ▸ h.t.tmp g)
 unfold yielded
 unfold gtmp at hj
 rw [hj]
 rw [Array.getD_eq_getD_getElem?] at h1
 cases ht : a.tmps[g]? with
 | none => rw [ht] at h1; simp [undef] at h1
 | some x =>
  rw [ht] at h1
  have h1 : x = .bool b := h1
  subst h1
  simp [ht]
theorem relV_skip {s : S4} : RelV s (.tup .nil) undef := ⟨[], rfl, rfl⟩
theorem unyielded_at {T : TF} {a : Act} {s : S4} (h : Fr ro B s0 nt T a s) {ops : Array Oper} {j g : Nat} (hj : gtmp ops j = some g) (hg : T g = .tup .nil) : yielded ops a.tmps j = none := by
 have h1 := h.t.tmp g
 rw [hg] at h1
 obtain ⟨l, h1, h2⟩ := h1
 simp only [RelVL] at h2
 subst h2
 unfold yielded
 unfold gtmp at hj
 rw [hj]
 rw [Array.getD_eq_getD_getElem?] at h1
 cases ht : a.tmps[g]? with
 | none => simp [ht]
 | some x =>
  rw [ht] at h1
  have h1 : x = .tuple #[] := h1
  subst h1
  simp [ht]
theorem runOps_ok (hc0 : B ≤ s0.cur) {ops : Array Oper} {Q : Exit → Act → World → Prop} {N0 : Nat} (hN0 : s0.H.nx ≤ N0) {K : TF → HF → Option β} {r : β} : ∀ (rest : List Oper) (i : Nat) (T : TF) (a : Act) (s : S4), Fr ro B s0 nt T a s → ops.toList.drop i = rest → N0 + 16 * ops.size ≤ s.H.nx →
  (∀ k, N0 + 16 * i ≤ k → k < N0 + 16 * ops.size → ¬ s.U k) → runOps E S inl nt ops rest (N0 + 16 * i) T s.H K = some r → (∀ a' T' t, Fr ro B s0 nt T' a' t → K T' t.H = some r → Q .normal a' t.W) →
  wpOpsIn (FR ro) 0 P ops Q (List.range' i (ops.size - i)) a s.W
 | [], i, T, a, s, h, hd, hnx, hu, hK, hQ => by
  have hi : ops.size ≤ i := by
   have := congrArg List.length hd
   simp at this
   omega
  rw [show ops.size - i = 0 by omega]
  exact hQ a T s h hK
 | o :: rest, i, T, a, s, h, hd, hnx, hu, hK, hQ => by
  have hi : i < ops.size := by
   have := congrArg List.length hd
   simp at this
   omega
  have ho : ops[i]? = some o := by
   have := congrArg (fun l => l[0]?) hd
   simpa using this
  have hrest : ops.toList.drop (i + 1) = rest := by
   rw [← List.drop_drop, hd]
   rfl
  have hls : List.range' i (ops.size - i) = i :: List.range' (i + 1) (ops.size - (i + 1)) := by
   rw [show ops.size - i = (ops.size - (i + 1)) + 1 by omega, List.range'_succ]
  rw [hls]
  simp only [wpOpsIn, ho]
  have hkey : N0 + 16 * i + 16 = N0 + 16 * (i + 1) := by omega
  have hroom : 16 * (i + 1) ≤ 16 * ops.size := Nat.mul_le_mul_left _ hi
  have go : ∀ T, Fr ro B s0 nt T a s → stepK E S inl nt (N0 + 16 * i) o T s.H (fun T' H' => runOps E S inl nt ops rest (N0 + 16 * i + 16) T' H' K) = some r → o.wpIn (FR ro) 0 P a s.W (wpOpsIn (FR ro) 0 P ops Q (List.range' (i + 1) (ops.size - (i + 1)))) Q := by
   intro T h hK
   refine step_ok hv hc0 h (fun k h1 h2 => hu k h1 (by omega)) (by omega) (by omega) hK (fun a' T' t h' hU hnx' hKr => ?_)
   rw [hkey] at hKr
   refine runOps_ok hc0 hN0 rest (i + 1) T' a' t h' hrest (by omega) (fun k h1 h2 hk => ?_) hKr hQ
   rcases hU k hk with hk | hk | hk
   ·exact hu k (by omega) h2 hk
   ·omega
   ·omega
  have skip : ∀ T, Fr ro B s0 nt T a s → runOps E S inl nt ops rest (N0 + 16 * i + 16) (putT nt T o.dst (.tup .nil)) s.H K = some r → (∀ f, o.about P s.W a.eval = some f → (FR ro).fn f) ∧ wpOpsIn (FR ro) 0 P ops Q (List.range' (i + 1) (ops.size - (i + 1))) (a.put o.dst undef) s.W := by
   intro T h hK
   rw [hkey] at hK
   obtain ⟨p1, p2⟩ := put_tmps a o.dst undef
   refine ⟨fun _ _ => trivial, ?_⟩
   exact runOps_ok hc0 hN0 rest (i + 1) _ _ s ⟨h.m, h.x, trel_put h.t h.n (relV_skip hv), by rw [p1]; exact h.d, p2.trans h.n, h.u⟩ hrest hnx (fun k h1 h2 => hu k (by omega) h2) hK hQ
  simp only [runOps] at hK
  split at hK
  ·rename_i hg
   rw [if_pos (by simp [Region.wanted, hg])]
   exact (go T h hK)
  ·rename_i j want hg
   split at hK
   ·cases hK
   ·rename_i g hj
    split at hK
    ·rename_i b hb
     have hy := yielded_at hv h hj hb
     have hT : ∀ c, b = c → Fr ro B s0 nt (upd T g (.d .bool c)) a s := fun c e => ⟨h.m, h.x, trel_same h.t (by rw [hb, e]), h.d, h.n, h.u⟩
     cases b with
     | true =>
      cases want with
      | true =>
       rw [if_pos (by simp [Region.wanted, hg, hy])]
       exact (go _ (hT true rfl) hK)
      | false =>
       rw [if_neg (by simp [Region.wanted, hg, hy])]
       exact skip _ (hT true rfl) hK
     | false =>
      cases want with
      | true =>
       rw [if_neg (by simp [Region.wanted, hg, hy])]
       exact skip _ (hT false rfl) hK
      | false =>
       rw [if_pos (by simp [Region.wanted, hg, hy])]
       exact (go _ (hT false rfl) hK)
    ·rename_i hb
     have hy := unyielded_at hv h hj hb
     rw [if_neg (by simp [Region.wanted, hg, hy])]
     exact skip _ h hK
    ·cases hK
end
end Go.Proofs.YtdokfjkihjkcmaaGreatDoor.Den

/- A block that is no cells becomes another one: what is said of the memory stays. -/
namespace Go.Proofs.YtdokfjkihjkcmaaGreatDoor.Den
open Go Go.RowKit
set_option linter.unusedVariables false
set_option linter.unusedSectionVars false
def noCells : Obj → Bool
 | .cells _ _ _ => false
 | .map _ _ => false
 | _ => true
structure Same (W W' : World) : Prop where
 hp : ∀ (b : Nat) (o : Obj), noCells o = false → W.heap[b]? = some o → W'.heap[b]? = some o
 cell : ∀ p, W'.cell? p = W.cell? p
 bs : ∀ (b : Nat), bsize W' b = bsize W b
 sz : W'.heap.size = W.heap.size
theorem same_putObj {W : World} {b : Nat} {o o' : Obj} (h : W.heap[b]? = some o) (ho : noCells o = true) (ho' : noCells o' = true) : Same W (W.putObj b o') := by
 have hb : b < W.heap.size := (Array.getElem?_eq_some_iff.1 h).1
 refine ⟨fun k o1 hn hk => ?_, fun p => ?_, fun k => ?_, by simp⟩
 ·have : k ≠ b := by
   rintro rfl
   rw [h] at hk
   injection hk with hk
   subst hk
   rw [hn] at ho
   cases ho
  rw [World.putObj_heap_other this]
  exact hk
 ·by_cases e : p.block = b
  ·unfold World.cell?
   rw [e, World.putObj_heap_same hb, h]
   cases o <;> cases o' <;> first | rfl | (exfalso; cases ho; done) | (exfalso; cases ho'; done)
  ·exact cell_of_block (World.putObj_heap_other e)
 ·unfold bsize
  by_cases e : k = b
  ·subst e
   rw [World.putObj_heap_same hb, h]
   cases o <;> cases o' <;> first | rfl | (exfalso; cases ho; done) | (exfalso; cases ho'; done)
  ·rw [World.putObj_heap_other e]
theorem same_refl (W : World) : Same W W := ⟨fun _ _ _ h => h, fun _ => rfl, fun _ => rfl, rfl⟩
theorem RelD.same {W W' : World} {I : Nat → Prop} (hW : Same W W') : ∀ {u : U} {x : u.T} {cs : List Value}, RelD W I u x cs → RelD W' I u x cs
 | .int _, _, _, h => h
 | .bool, _, _, h => h
 | .fn, _, _, h => h
 | .sl u, _, _, h => by
  obtain ⟨v, rfl, A, cap, rfl, hn, hx⟩ := h
  refine ⟨_, rfl, A, cap, rfl, hn, fun i x hi => ?_⟩
  obtain ⟨ad, c, rfl, hb, hr, hc, hcell⟩ := hx i x hi
  exact ⟨ad, c, rfl, hb, hr.same hW, hc, fun j w hj => (hW.cell _).trans (hcell j w hj)⟩
 | .arr n u, _, _, h => ⟨h.1, h.2.1, fun i x hi => (h.2.2 i x hi).same hW⟩
 | .nil, _, _, h => h
 | .cons a b, _, _, h => by
  obtain ⟨c1, c2, rfl, h1, h2⟩ := h
  exact ⟨c1, c2, rfl, h1.same hW, h2.same hW⟩
theorem GlobW.same {W W' : World} {I : Nat → Prop} (hW : Same W W') (h : GlobW W I) : GlobW W' I := by
 intro g u x hg
 obtain ⟨h1, c, h2, h3⟩ := h g u x hg
 exact ⟨h1, c, h2.same hW, fun j w hj => (hW.cell _).trans (h3 j w hj)⟩
mutual
theorem RelC.same {s : S4} {W' : World} {c0 : Nat} {d0 : Bool} (hW : Same s.W W') : ∀ {v : V} {cs : List Value}, RelC s v cs → RelC { s with W := W', cur := c0, H := { s.H with dn := d0 } } v cs
 | .d u x, cs, h => by simp only [RelC] at h ⊢; exact h.same hW
 | .cons a b, cs, h => by
  simp only [RelC] at h ⊢
  obtain ⟨c1, c2, rfl, h1, h2⟩ := h
  exact ⟨c1, c2, rfl, RelC.same hW h1, RelC.same hW h2⟩
 | .nil, cs, h => by simp only [RelC] at h ⊢; exact h
 | .nilsl, cs, h => by simp only [RelC] at h ⊢; exact h
 | .dfull u xs, cs, h => by simp only [RelC] at h ⊢; exact ⟨h.1.same hW, h.2⟩
 | .row k, cs, h => by
  simp only [RelC] at h ⊢
  obtain ⟨hu, v, rfl, h1, hr⟩ := h
  exact ⟨hu, v, rfl, h1, fun r hr' => (hr r hr').ext fun b _ _ => hW.bs b⟩
 | .rsub k o n, cs, h => by
  simp only [RelC] at h ⊢
  obtain ⟨hu, v, rfl, h1, hr⟩ := h
  exact ⟨hu, v, rfl, h1, fun r hr' => ⟨(hr r hr').1, (hr r hr').2.ext fun b _ _ => hW.bs b⟩⟩
 | .pvar k p, cs, h => by simp only [RelC] at h ⊢; exact h
 | .prow k i p, cs, h => by simp only [RelC] at h ⊢; exact h
 | .pdeep u x, cs, h => by
  simp only [RelC] at h ⊢
  obtain ⟨ad, c, rfl, hb, hr, hc⟩ := h
  exact ⟨ad, c, rfl, hb, hr.same hW, fun j w hj => (hW.cell _).trans (hc j w hj)⟩
 | .fn f a b, cs, h => by
  simp only [RelC] at h ⊢
  rcases h with ⟨hb, X, rfl, h1⟩ | ⟨l, m, rfl, h1, h2⟩
  ·exact .inl ⟨hb, X, rfl, RelL.same hW h1⟩
  ·exact .inr ⟨l, m, rfl, RelL.same hW h1, RelL.same hW h2⟩
 | .tup _, cs, h => by simp only [RelC] at h
 | .mp _, cs, h => by simp only [RelC] at h ⊢; exact h
 | .mapd _ _, cs, h => by simp only [RelC] at h
 | .hrow _ _ _ _ _, cs, h => by simp only [RelC] at h
 | .str _, cs, h => by simp only [RelC] at h ⊢; exact h
 | .drow _ _ _ _ _, cs, h => by simp only [RelC] at h
 | .dsl _ _ _ _, cs, h => by simp only [RelC] at h ⊢; exact h
 | .dpi _ _ _ _ _, cs, h => by simp only [RelC] at h ⊢; exact h
 | .undef, cs, h => by simp only [RelC] at h ⊢; exact h
theorem RelL.same {s : S4} {W' : World} {c0 : Nat} {d0 : Bool} (hW : Same s.W W') : ∀ {v : V} {l : List Value}, RelL s v l → RelL { s with W := W', cur := c0, H := { s.H with dn := d0 } } v l
 | .cons a b, l, h => by
  simp only [RelL] at h ⊢
  obtain ⟨v, r, cs, rfl, h1, h2, h3⟩ := h
  exact ⟨v, r, cs, rfl, RelC.same hW h1, h2, RelL.same hW h3⟩
 | .nil, l, h => by simp only [RelL] at h ⊢; exact h
 | .d _ _, _, h => by simp only [RelL] at h
 | .nilsl, _, h => by simp only [RelL] at h
 | .dfull _ _, _, h => by simp only [RelL] at h
 | .row _, _, h => by simp only [RelL] at h
 | .rsub _ _ _, _, h => by simp only [RelL] at h
 | .pvar _ _, _, h => by simp only [RelL] at h
 | .prow _ _ _, _, h => by simp only [RelL] at h
 | .pdeep _ _, _, h => by simp only [RelL] at h
 | .fn _ _ _, _, h => by simp only [RelL] at h
 | .tup _, _, h => by simp only [RelL] at h
 | .mp _, _, h => by simp only [RelL] at h
 | .mapd _ _, _, h => by simp only [RelL] at h
 | .hrow _ _ _ _ _, _, h => by simp only [RelL] at h
 | .str _, _, h => by simp only [RelL] at h
 | .drow _ _ _ _ _, _, h => by simp only [RelL] at h
 | .dsl _ _ _ _, _, h => by simp only [RelL] at h
 | .dpi _ _ _ _ _, _, h => by simp only [RelL] at h
 | .undef, _, h => by simp only [RelL] at h
end
theorem RelV0.same {s : S4} {W' : World} {c0 : Nat} {d0 : Bool} (hW : Same s.W W') {v : V} {x : Value} (h : RelV0 s v x) : RelV0 { s with W := W', cur := c0, H := { s.H with dn := d0 } } v x :=
 h.imp id fun ⟨cs, h1, h2⟩ => ⟨cs, RelC.same hW h1, h2⟩
theorem RelVL0.same {s : S4} {W' : World} {c0 : Nat} {d0 : Bool} (hW : Same s.W W') : ∀ {v : V} {l : List Value}, RelVL0 s v l → RelVL0 { s with W := W', cur := c0, H := { s.H with dn := d0 } } v l := by
 intro v
 induction v with
 | cons a b _ ih =>
  intro l h
  obtain ⟨x, r, rfl, h1, h2⟩ := h
  exact ⟨x, r, rfl, h1.same hW, ih h2⟩
 | nil => intro l h; exact h
 | _ => intro l h; simp only [RelVL0] at h
def SameLoops (W W' : World) : Prop := ∀ (l : Nat) r, W.heap[l]? = some (Obj.loop r) → W'.heap[l]? = some (Obj.loop r)
theorem RelV1.same {s : S4} {W' : World} (hW : Same s.W W') (hl : SameLoops s.W W') {v : V} {x : Value} (h : RelV1 s v x) : RelV1 { s with W := W' } v x := by
 rcases h with h | ⟨cs, h, h2⟩
 ·exact .inl h
 ·refine .inr ⟨cs, ?_, h2⟩
  unfold RelT at h ⊢
  split at h
  ·obtain ⟨rfl, l, r, q, rfl, h⟩ := h
   exact ⟨rfl, l, r, q, rfl, h.i, h.cu, fun hd => hl _ _ (h.w hd), h.st, h.pe, h.hq, h.hp, h.ha, h.hb, h.nt, h.v.same hW⟩
  ·exact RelC.same hW h
theorem RelVL.same {s : S4} {W' : World} (hW : Same s.W W') (hl : SameLoops s.W W') : ∀ {v : V} {l : List Value}, RelVL s v l → RelVL { s with W := W' } v l := by
 intro v
 induction v with
 | cons a b _ ih =>
  intro l h
  obtain ⟨x, r, rfl, h1, h2⟩ := h
  exact ⟨x, r, rfl, h1.same hW hl, ih h2⟩
 | nil => intro l h; exact h
 | _ => intro l h; simp only [RelVL] at h
theorem RelV.same {s : S4} {W' : World} (hW : Same s.W W') (hl : SameLoops s.W W') {v : V} {x : Value} (h : RelV s v x) : RelV { s with W := W' } v x := by
 cases v with
 | tup vs => obtain ⟨l, rfl, h⟩ := h; exact ⟨l, rfl, h.same hW hl⟩
 | _ => exact RelV1.same hW hl h
theorem RelV.sameN {s : S4} {W' : World} {c0 : Nat} {d0 : Bool} (hW : Same s.W W') {v : V} {x : Value} (h : RelV s v x) (hn : v.isY = false) (ht : ∀ w, v ≠ .tup w) : RelV { s with W := W', cur := c0, H := { s.H with dn := d0 } } v x := by
 cases v with
 | tup vs => exact absurd rfl (ht vs)
 | _ => exact RelV0.to (RelV0.same hW (RelV1.to0 h hn))
theorem RelO.same {s : S4} {W' : World} {c0 : Nat} {d0 : Bool} (hW : Same s.W W') {c : V} {o : Obj} (h : RelO s c o) : RelO { s with W := W', cur := c0, H := { s.H with dn := d0 } } c o := by
 unfold RelO at h ⊢
 split at h
 ·exact h
 ·obtain ⟨es, clock, rfl, h⟩ := h
  exact ⟨es, clock, rfl, h.mel, h.size, h.clock, h.nd, fun i p hi => by
   obtain ⟨e, g1, g2, g3, g4⟩ := h.at_ i p hi
   exact ⟨e, g1, g2, g3, g4.same hW⟩⟩
 ·obtain ⟨cs, t, rfl, h⟩ := h
  refine ⟨cs, t, rfl, h.u_, h.z, h.lt, h.sk, fun b base hb => ?_⟩
  obtain ⟨h1, h2, c, h3, h4, h5⟩ := h.at_ b base hb
  refine ⟨h1, fun j x hj hx => ?_, c, RelC.same hW h3, h4, h5⟩
  obtain ⟨c, q1, q2⟩ := h2 j x hj hx
  exact ⟨c, q1.same hW, q2⟩
 ·obtain ⟨cs, t, rfl, h⟩ := h
  exact ⟨cs, t, rfl, RelC.same hW h⟩
theorem RelO.noCells {s : S4} {c : V} {o : Obj} (h : RelO s c o) : noCells o = false := by
 unfold RelO at h
 split at h
 ·obtain ⟨cs, t, rfl⟩ := h; rfl
 ·obtain ⟨es, clock, rfl, _⟩ := h; rfl
 ·obtain ⟨cs, t, rfl, _⟩ := h; rfl
 ·obtain ⟨cs, t, rfl, _⟩ := h; rfl
theorem MemOk.same {B : Nat} {s : S4} (h : MemOk B s) {W' : World} {c0 : Nat} {d0 : Bool} (hW : Same s.W W') : MemOk B { s with W := W', cur := c0, H := { s.H with dn := d0 } } where
 ilt := fun b hb => by rw [show ({ s with W := W', cur := c0, H := { s.H with dn := d0 } } : S4).W.heap.size = s.W.heap.size from hW.sz]; exact h.ilt b hb
 bsz := by rw [show ({ s with W := W', cur := c0, H := { s.H with dn := d0 } } : S4).W.heap.size = s.W.heap.size from hW.sz]; exact h.bsz
 un := h.un
 var := fun k c hc => by
  obtain ⟨h1, h2, h3, o, h4, h5⟩ := h.var k c hc
  exact ⟨h1, h2, h3, o, hW.hp _ _ h5.noCells h4, RelO.same hW h5⟩
 row := fun k r hr => by
  obtain ⟨h1, h2, h3⟩ := h.row k r hr
  refine ⟨h1, h2, h3.imp (fun q => q) ?_⟩
  rintro ⟨b, base, cur, t, e1, e2, e3, e4, e5, e6⟩
  refine ⟨b, base, cur, t, e1, hW.hp _ _ rfl e2, e3, e4, e5, fun i y hi => ?_⟩
  obtain ⟨c, g1, g2⟩ := e6 i y hi
  exact ⟨c, g1.same hW, g2⟩
 vv := h.vv
 rr := h.rr
 vr := h.vr
 hk := h.hk
 dj := ⟨fun k v r xs q ho hk => by
  obtain ⟨u1, u2, u3, base, cs, t, f1, f2, f3, f4⟩ := h.dj.el k v r xs q ho hk
  refine ⟨u1, u2, u3, base, cs, t, f1, hW.hp _ _ rfl f2, f3, fun i x hi hh => ?_⟩
  obtain ⟨c1, ⟨A, cap, e, g1, g2⟩, c, c3, c4⟩ := f4 i x hi hh
  refine ⟨c1, ⟨A, cap, e, g1, g2.imp id ?_⟩, c, c3.same hW, c4⟩
  rintro ⟨b, o, cur, t', q1, q2, q3, q4, q5, q6⟩
  refine ⟨b, o, cur, t', q1, hW.hp _ _ rfl q2, q3, q4, q5, fun j y hj => ?_⟩
  obtain ⟨c, e1, e2⟩ := q6 j y hj
  exact ⟨c, e1.same hW, e2⟩, h.dj.one⟩
theorem Ext.same {B : Nat} {s t : S4} (h : Ext B s t) {W' : World} (hW : Same t.W W') (hi : ∀ (b : Nat), s.I b → W'.heap[b]? = t.W.heap[b]?) (hb : Below B t.W W') : Ext B s { t with W := W' } where
 i := h.i
 inew := h.inew
 w := fun b hb => by
  rcases h.w b hb with ⟨e, n⟩ | ⟨e1, e2, e3, r, e4, e5⟩
  ·exact .inl ⟨(hi b hb).trans e, n⟩
  ·exact .inr ⟨e1, e2, e3, r, e4, (hi b hb).trans e5⟩
 cu := h.cu
 dm := h.dm
 below := h.below.trans hb
 u := h.u
 nx := h.nx
 var := h.var
 row := fun k r' hu hr => by
  obtain ⟨g1, g5⟩ := h.row k r' hu hr
  exact ⟨g1, fun b base hp => (hW.bs b).trans (g5 b base hp)⟩
 pl := h.pl
 fam := h.fam
theorem below_putObj {B : Nat} {W : World} {b : Nat} {o : Obj} (h : B ≤ b) : Below B W (W.putObj b o) :=
 ⟨rfl, rfl, rfl, by simp, fun k hk => World.putObj_heap_other (by omega)⟩
end Go.Proofs.YtdokfjkihjkcmaaGreatDoor.Den

/- At a loop's head, and behind it: what lives on is numbered anew, the rest is forgotten. -/
namespace Go.Proofs.YtdokfjkihjkcmaaGreatDoor.Den
open Go Go.RowKit
set_option linter.unusedVariables false
set_option linter.unusedSectionVars false
theorem trel_set {s : S4} {T : TF} {tmps : Array Value} {i : Nat} {v : V} (h : TRel s T tmps) (hv : RelV s v (tmps.getD i undef)) : TRel s (upd T i v) tmps := by
 refine ⟨fun j => ?_, h.gl⟩
 unfold upd
 by_cases e : j = i
 ·subst e
  simpa using hv
 ·rw [nbeq e]
  exact h.tmp j
def S4.bump (s : S4) : S4 := { s with H := { s.H with nx := s.H.nx + 1 } }
theorem bump_ok {B : Nat} {s : S4} (h : MemOk B s) : MemOk B s.bump ∧ Ext B s s.bump := by
 have x : Ext B s s.bump := ⟨fun _ h => h, fun _ h => .inl h, fun _ _ => .eq rfl rfl, Below.refl _ _, fun _ h => h, Nat.le_succ _, fun k c _ hc => ⟨c, hc, rfl, rfl⟩, fun k r _ hr => ⟨hr, fun _ _ _ => rfl⟩, fun _ _ => rfl, rfl, fun h => h, fun _ _ => rfl⟩
 refine ⟨⟨h.ilt, h.bsz, fun k hk => Nat.lt_succ_of_lt (h.un k hk), fun k c hc => ?_, h.row, h.vv, h.rr, h.vr, h.hk, h.dj.mono x (fun _ _ _ _ _ _ hk => ⟨hk, rfl, rfl⟩) (fun _ _ _ _ ht => ht) (fun _ _ _ _ => rfl)⟩, x⟩
 obtain ⟨h1, h2, h3, o, h4, h5⟩ := h.var k c hc
 exact ⟨h1, h2, h3, o, h4, RelO.ext x h5⟩
theorem nilsl_off : ∀ {c : V} {p : List Step}, c.get p = some .nilsl → ∃ o, c.sk.off p = some o
 | c, [], h => ⟨0, off_nil⟩
 | .cons a b, .fld 0 :: p, h => by
  simp only [V.get] at h
  obtain ⟨o, ho⟩ := nilsl_off h
  exact ⟨o, by simp [V.sk, U.off, ho]⟩
 | .cons a b, .fld (i + 1) :: p, h => by
  simp only [V.get] at h
  obtain ⟨o, ho⟩ := nilsl_off h
  exact ⟨a.sk.size + o, by simp [V.sk, U.off, ho]⟩
 | .cons a b, .idx i :: p, h => by simp [V.get] at h
 | .d u x, q :: p, h => by
  simp only [V.get] at h
  split at h <;> simp at h
 | .nil, q :: p, h => by simp [V.get] at h
 | .nilsl, q :: p, h => by simp [V.get] at h
 | .dfull _ _, q :: p, h => by simp [V.get] at h
 | .row _, q :: p, h => by simp [V.get] at h
 | .rsub _ _ _, q :: p, h => by simp [V.get] at h
 | .pvar _ _, q :: p, h => by simp [V.get] at h
 | .prow _ _ _, q :: p, h => by simp [V.get] at h
 | .pdeep _ _, q :: p, h => by simp [V.get] at h
 | .fn _ _ _, q :: p, h => by simp [V.get] at h
 | .tup _, q :: p, h => by simp [V.get] at h
 | .mp _, q :: p, h => by simp [V.get] at h
 | .mapd _ _, q :: p, h => by simp [V.get] at h
 | .hrow _ _ _ _ _, q :: p, h => by simp [V.get] at h
 | .str _, q :: p, h => by simp [V.get] at h
 | .drow _ _ _ _ _, q :: p, h => by simp [V.get] at h
 | .dsl _ _ _ _, q :: p, h => by simp [V.get] at h
 | .dpi _ _ _ _ _, q :: p, h => by simp [V.get] at h
 | .undef, q :: p, h => by simp [V.get] at h
theorem nilsl_nm {c : V} {p : List Step} (h : c.get p = some .nilsl) : c.sk ≠ .int .i64 := by
 intro hc
 rcases sk_map hc with ⟨u, xs, rfl⟩ | ⟨_, _, _, _, _, rfl⟩ | ⟨_, _, _, _, _, rfl⟩ <;> cases p <;> simp [V.get] at h
theorem splice_same {cs : List Value} {o n : Nat} : splice cs o ((cs.drop o).take n) = cs := by
 unfold splice
 rw [List.append_assoc]
 have : (cs.drop o).take n ++ cs.drop (o + ((cs.drop o).take n).length) = cs.drop o := by
  rw [List.length_take, List.length_drop, ← List.drop_drop]
  conv => rhs; rw [← List.take_append_drop n (cs.drop o)]
  congr 1
  rcases Nat.le_total n (cs.length - o) with h | h
  ·rw [Nat.min_eq_left h]
  ·rw [Nat.min_eq_right h, List.drop_eq_nil_of_le (by simp), List.drop_eq_nil_of_le (by simpa using h)]
 rw [this, List.take_append_drop]
theorem ownVar_ok {B : Nat} {s : S4} (h : MemOk B s) {u : U} (hz : 0 < u.size) {T : TF} {tmps : Array Value} (hT : TRel s T tmps) {k : Nat} {p : List Step} {r : Nat × TF × HF} (ho : ownAt.inVar u k p T s.H = some r) :
  ∃ t, t.H = r.2.2 ∧ t.W = s.W ∧ MemOk B t ∧ Ext B s t ∧ TRel t r.2.1 tmps ∧ ∀ k, t.U k → s.U k ∨ s.H.nx ≤ k := by
 unfold ownAt.inVar at ho
 split at ho
 ·rename_i c hc
  split at ho
  ·rename_i hg
   split at ho
   ·rename_i c' hset
    injection ho with ho
    subst ho
    obtain ⟨m1, x1⟩ := bump_ok h
    obtain ⟨t, a1, a2, a3, a4, a5, a6⟩ := empty_ok m1 (key := s.H.nx) (fun hk => Nat.lt_irrefl _ (h.un _ hk)) (Nat.lt_succ_self _) hz none
    obtain ⟨o, hoff⟩ := nilsl_off hg
    have hct : t.H.pv k = some c := by rw [a1]; exact (pv_eq (H := s.H) (H2 := s.bump.H.setRow s.H.nx ⟨u, [], true⟩) rfl).trans hc
    obtain ⟨_, _, _, ob, hb, hrO⟩ := a2.var k c (pv_var hct).1
    obtain ⟨cs, ty, rfl, hr⟩ := hrO.cells (nilsl_nm hg)
    obtain ⟨g1, g2⟩ := get_rel hg hr hoff
    simp only [RelC] at g2
    obtain ⟨cs6, e1, e2⟩ := a6.get (by intro h; cases h) (by intro w h; cases h)
    have e3 : cs6 = [.slice none 0 0] := e2
    subst e3
    have hdc : dcode c.sk p = some (V.row s.H.nx).sk := g1
    obtain ⟨s1, s2⟩ := set_rel hset hr e1 hoff hdc
    rw [← g2, splice_same] at s2
    have hw := wset_refl hb
    refine ⟨t.putVar t.W k c', ?_, a5, memOk_putVar a2 hct s1 hw s2, (x1.trans a3).trans (ext_putVar a2 hct s1 (relC_nh s2) hw), (hT.ext (x1.trans a3)).ext (ext_putVar a2 hct s1 (relC_nh s2) hw), fun k hk => (a4 k hk).imp id (fun e => Nat.le_of_eq e.symm)⟩
    show t.H.setVar k c' = _
    rw [a1]
    rfl
   ·cases ho
  ·rename_i j hg
   injection ho with ho
   subst ho
   exact ⟨s, rfl, rfl, h, Ext.refl B s, hT, fun k hk => .inl hk⟩
  ·cases ho
 ·cases ho
theorem rsub_ok {B : Nat} {s : S4} (h : MemOk B s) {key : Nat} (hu : ¬ s.U key) (hk : key < s.H.nx) {k o n : Nat} {r : Row} (hr : s.H.row k = some r) (hw : r.w = true) {vx : Value} (hx : RelV s (.rsub k o n) vx) :
  ∃ t : S4, t.H = (s.H.delRow k).setRow key ⟨r.u, (r.xs.drop o).take n, true⟩ ∧ MemOk B t ∧ Ext B s t ∧ (∀ k, t.U k → s.U k ∨ k = key) ∧ t.W = s.W ∧ RelV t (.row key) vx := by
 obtain ⟨_, _, hv⟩ := relV_rsub hx
 obtain ⟨hon, A, c, rfl, hn, hc⟩ := hv r hr
 have hzp := (h.row k r hr).2.1
 have m1 := memOk_delRow h k
 have x1 : Ext B s (s.delRow k) := ext_delRow h
 have hzl : ((r.xs.drop o).take n).length = n := by simp; omega
 rcases hc with hc | ⟨b, base, hp, rfl, hbs⟩
 ·subst hc
  have hn0 : n = 0 := by omega
  subst hn0
  obtain ⟨t', a1, a2, a3, a4, a5, a6⟩ := empty_ok m1 (key := key) hu hk hzp A
  refine ⟨t', ?_, a2, x1.trans a3, a4, a5, a6⟩
  rw [a1]; simp [S4.delRow]
 ·have hf := free_delRow h hr hw hp
  obtain ⟨_, _, h3⟩ := h.row k r hr
  rcases h3 with h3 | ⟨b', base', cur, t', e', hh, _, _, hs, hx'⟩
  ·rw [h3.2] at hp; cases hp
  rw [hp] at e'
  injection e' with e'
  injection e' with e1 e2
  subst e1 e2
  have hon2 : (o + n) * r.u.size ≤ r.xs.length * r.u.size := Nat.mul_le_mul_right _ hon
  rw [Nat.add_mul] at hon2
  have hra : RowAt (s.delRow k) ⟨r.u, (r.xs.drop o).take n, true⟩ b (base + o * r.u.size) := by
   refine ⟨cur, t', hh, by simp; rw [Nat.min_eq_left (by omega)]; omega, fun q x hq => ?_⟩
   have hq : ((r.xs.drop o).take n)[q]? = some x := hq
   have hqn : q < n := by
    have := (List.getElem?_eq_some_iff.1 hq).1
    omega
   rw [List.getElem?_take, if_pos hqn, List.getElem?_drop] at hq
   obtain ⟨c', hc', hcc⟩ := hx' _ x hq
   refine ⟨c', hc', fun j v hj => ?_⟩
   have := hcc j v hj
   rw [Nat.add_mul] at this
   show cur[base + o * r.u.size + q * r.u.size + j]? = some v
   rw [show base + o * r.u.size + q * r.u.size + j = base + (o * r.u.size + q * r.u.size) + j by omega]
   exact this
  have m2 := memOk_addRow m1 (key := key) (pl := some (b, base + o * r.u.size)) (r := ⟨r.u, (r.xs.drop o).take n, true⟩) hu hk hzp rfl (.inr ⟨_, _, rfl, hf, hra⟩)
  refine ⟨_, rfl, m2, x1.trans (ext_addRow hu), fun q hq => hq, rfl, .inr ⟨[_], relT_of ?_, rfl⟩⟩
  simp only [RelC]
  refine ⟨.inr rfl, _, rfl, rfl, fun r' hr' => ?_⟩
  rcases addRow_geo hr' with ⟨_, rfl⟩ | ⟨hne, _⟩
  ·refine ⟨some ⟨b, base + o * r.u.size, none⟩, c, by show _ = Value.slice _ _ c; rw [hzl], by show _ ≤ c; rw [hzl]; exact hn, .inr ⟨b, base + o * r.u.size, by simp [S4.addRow], by simp, ?_⟩⟩
   show base + o * r.u.size + (0 + c) * r.u.size ≤ bsize s.W b
   rw [Nat.add_mul] at hbs
   rw [Nat.zero_add]
   omega
  ·exact absurd rfl hne
theorem own_ok {B : Nat} {s : S4} (h : MemOk B s) {o : Place} {u : U} {T : TF} {tmps : Array Value} (hT : TRel s T tmps) {r : Nat × TF × HF} (ho : ownAt o u T s.H = some r) :
  ∃ t, t.H = r.2.2 ∧ t.W = s.W ∧ MemOk B t ∧ Ext B s t ∧ TRel t r.2.1 tmps ∧ ∀ k, t.U k → s.U k ∨ s.H.nx ≤ k := by
 unfold ownAt at ho
 split at ho
 ·cases ho
 ·rename_i hz
  have hz : 0 < u.size := by simpa [Nat.blt_eq] using hz
  split at ho
  ·rename_i i
   split at ho
   ·rename_i hi
    injection ho with ho
    subst ho
    obtain ⟨m1, x1⟩ := bump_ok h
    obtain ⟨t, a1, a2, a3, a4, a5, a6⟩ := empty_ok m1 (key := s.H.nx) (fun hk => Nat.lt_irrefl _ (h.un _ hk)) (Nat.lt_succ_self _) hz none
    refine ⟨t, by rw [a1]; rfl, a5, a2, x1.trans a3, trel_set (hT.ext (x1.trans a3)) ?_, fun k hk => (a4 k hk).imp id (fun e => Nat.le_of_eq e.symm)⟩
    have := hT.tmp i
    rw [hi] at this
    obtain ⟨cs, e1, e2⟩ := this.get (by intro h; cases h) (by intro w h; cases h)
    simp only [RelC] at e1
    subst e1
    rw [isVal_one e2 rfl]
    exact a6
   ·rename_i k hi
    injection ho with ho
    subst ho
    exact ⟨s, rfl, rfl, h, Ext.refl B s, hT, fun k hk => .inl hk⟩
   ·rename_i k o n hi
    split at ho
    ·rename_i rw hr
     split at ho
     ·rename_i hw
      injection ho with ho
      subst ho
      obtain ⟨m1, x1⟩ := bump_ok h
      have hx := hT.tmp i
      rw [hi] at hx
      obtain ⟨t, a1, a2, a3, a4, a5, a6⟩ := rsub_ok m1 (key := s.H.nx) (fun hk => Nat.lt_irrefl _ (h.un _ hk)) (Nat.lt_succ_self _) hr hw (hx.ext x1)
      exact ⟨t, by rw [a1]; rfl, a5, a2, x1.trans a3, trel_set (hT.ext (x1.trans a3)) a6, fun k hk => (a4 k hk).imp id (fun e => Nat.le_of_eq e.symm)⟩
     ·cases ho
    ·cases ho
   ·cases ho
  ·split at ho
   ·exact ownVar_ok h hz hT ho
   ·cases ho
  ·exact ownVar_ok h hz hT ho
theorem ownAll_ok {B : Nat} {tmps : Array Value} : ∀ {os : List (Place × U)} {s : S4} {T : TF} {r : List Nat × TF × HF}, MemOk B s → TRel s T tmps → ownAll os T s.H = some r → ∃ t, t.H = r.2.2 ∧ t.W = s.W ∧ MemOk B t ∧ Ext B s t ∧ TRel t r.2.1 tmps ∧ ∀ k, t.U k → s.U k ∨ s.H.nx ≤ k
 | [], s, T, r, h, hT, ho => by
  simp only [ownAll] at ho
  injection ho with ho
  subst ho
  exact ⟨s, rfl, rfl, h, Ext.refl B s, hT, fun k hk => .inl hk⟩
 | (o, u) :: os, s, T, r, h, hT, ho => by
  simp only [ownAll] at ho
  split at ho
  ·rename_i k T' H' h1
   split at ho
   ·rename_i ks T'' H'' h2
    injection ho with ho
    subst ho
    obtain ⟨t, a1, a2, a3, a4, a5, a6⟩ := own_ok h hT h1
    simp only at a1 a5
    rw [← a1] at h2
    obtain ⟨t2, b1, b2, b3, b4, b5, b6⟩ := ownAll_ok a3 a5 h2
    exact ⟨t2, b1, b2.trans a2, b3, a4.trans b4, b5, fun k hk => (b6 k hk).elim (a6 k) (fun e => .inr (Nat.le_trans a4.nx e))⟩
   ·cases ho
  ·cases ho
theorem flat_val {B : Nat} {s : S4} (h : MemOk B s) {u : U} {v : V} {x : u.T} (hd : deepen s.H u v = some x) {y : Value} (hy : RelV s v y) :
  ∃ t : S4, t.H = s.H.freeze v.rows ∧ t.W = s.W ∧ t.U = s.U ∧ MemOk B t ∧ Ext B s t ∧ RelV t (.d u x) y := by
 obtain ⟨t, e1, e2, e3, e4, e5, e6, e7⟩ := freeze_ok (B := B) v.rows h
 obtain ⟨cs, g1, g2, _⟩ := deepen_cells h hd hy
 refine ⟨t, e1, e2, e3, e5, e6, .inr ⟨cs, relT_of ?_, ?_⟩⟩
 ·simp only [RelC]
  exact g1.mono (fun b hb => by
   rcases hb with hb | ⟨j, r', base, hj, hr', hp⟩
   ·exact e6.i b hb
   ·exact e7 j hj r' b base hr' hp) (fun b hb => by rw [e2])
 ·simpa [V.agg, V.sk, U.sk_agg] using g2
theorem flatVar_ok {B : Nat} {s : S4} (h : MemOk B s) {u : U} {T : TF} {tmps : Array Value} (hT : TRel s T tmps) {k : Nat} {p : List Step} {r : TF × HF} (ho : flatAt.inVar u T s.H k p = some r) :
  ∃ t : S4, t.H = r.2 ∧ t.W = s.W ∧ t.U = s.U ∧ MemOk B t ∧ Ext B s t ∧ TRel t r.1 tmps := by
 unfold flatAt.inVar at ho
 split at ho
 ·rename_i c hc
  split at ho
  ·rename_i v hg
   split at ho
   ·rename_i x hd
    split at ho
    ·rename_i o hoff
     split at ho
     ·rename_i c' hset
      injection ho with ho
      subst ho
      obtain ⟨t, e1, e2, e3, e4, e5, e6, e7⟩ := freeze_ok (B := B) v.rows h
      have hct : t.H.pv k = some c := by rw [e1, pv_eq (H := s.H) (by rw [freeze_var])]; exact hc
      obtain ⟨_, _, _, ob0, hb0, hrO⟩ := h.var k c (pv_var hc).1
      have hnm : c.sk ≠ .int .i64 := by
       intro hm
       obtain ⟨um, xm, rfl⟩ := (sk_map hm).resolve_right (fun hr => by
        rcases hr with ⟨_, _, _, _, _, rfl⟩ | ⟨_, _, _, _, _, rfl⟩
        ·cases (pv_var hc).2
        ·cases (pv_var hc).2)
       cases p with
       | nil =>
        have hg : some (V.mapd um xm) = some v := hg
        injection hg with hg
        subst hg
        cases u <;> simp [deepen] at hd
       | cons q p => simp [V.get] at hg
      obtain ⟨cs0, ty0, rfl, hr0⟩ := hrO.cells hnm
      obtain ⟨g1, g2⟩ := get_rel hg hr0 hoff
      have hdd := deepen_rel h hd g2
      obtain ⟨_, _, _, ob, hb, hrP⟩ := e5.var k c (pv_var hct).1
      obtain ⟨cs, ty, rfl, hr⟩ := hrP.cells hnm
      rw [e4, e2, hb0] at hb
      injection hb with hb
      injection hb with hb hb2
      subst hb
      have hx : RelC t (.d u x) ((cs0.toList.drop o).take v.size) := by
       simp only [RelC]
       exact hdd.mono (fun b hb => by
        rcases hb with hb | ⟨j, r', base, hj, hr', hp⟩
        ·exact e6.i b hb
        ·exact e7 j hj r' b base hr' hp) (fun b hb => by rw [e2])
      have hsk := deepen_sk hd
      have hdc : dcode c.sk p = some (V.d u x).sk := by rw [g1, hsk]; rfl
      obtain ⟨s1, s2⟩ := set_rel hset hr hx hoff hdc
      rw [splice_same] at s2
      have hw : WSet t.W t.W (t.ρ.var k) cs0 := by rw [e4, e2]; exact wset_refl hb0
      refine ⟨t.putVar t.W k c', ?_, e2, e3, memOk_putVar e5 hct s1 hw s2, e6.trans (ext_putVar e5 hct s1 (relC_nh s2) hw), (hT.ext e6).ext (ext_putVar e5 hct s1 (relC_nh s2) hw)⟩
      show t.H.setVar k c' = _
      rw [e1]
     ·cases ho
    ·cases ho
   ·cases ho
  ·cases ho
 ·cases ho
theorem flat_ok {B : Nat} {s : S4} (h : MemOk B s) {o : Place} {u : U} {T : TF} {tmps : Array Value} (hT : TRel s T tmps) {r : TF × HF} (ho : flatAt o u T s.H = some r) :
  ∃ t : S4, t.H = r.2 ∧ t.W = s.W ∧ t.U = s.U ∧ MemOk B t ∧ Ext B s t ∧ TRel t r.1 tmps := by
 unfold flatAt at ho
 split at ho
 ·rename_i i
  split at ho
  ·rename_i x hd
   injection ho with ho
   subst ho
   obtain ⟨t, a1, a2, a3, a4, a5, a6⟩ := flat_val h hd (hT.tmp i)
   exact ⟨t, a1, a2, a3, a4, a5, trel_set (hT.ext a5) a6⟩
  ·cases ho
 ·split at ho
  ·exact flatVar_ok h hT ho
  ·cases ho
 ·exact flatVar_ok h hT ho
theorem flatAll_ok {B : Nat} {tmps : Array Value} : ∀ {os : List (Place × U)} {s : S4} {T : TF} {r : TF × HF}, MemOk B s → TRel s T tmps → flatAll os T s.H = some r →
  ∃ t : S4, t.H = r.2 ∧ t.W = s.W ∧ t.U = s.U ∧ MemOk B t ∧ Ext B s t ∧ TRel t r.1 tmps
 | [], s, T, r, h, hT, ho => by
  simp only [flatAll] at ho
  injection ho with ho
  subst ho
  exact ⟨s, rfl, rfl, rfl, h, Ext.refl B s, hT⟩
 | (o, u) :: os, s, T, r, h, hT, ho => by
  simp only [flatAll] at ho
  split at ho
  ·rename_i T' H' h1
   obtain ⟨t, a1, a2, a3, a4, a5, a6⟩ := flat_ok h hT h1
   simp only at a1 a6
   rw [← a1] at ho
   obtain ⟨t2, b1, b2, b3, b4, b5, b6⟩ := flatAll_ok a4 a6 ho
   exact ⟨t2, b1, b2.trans a2, b3.trans a3, b4, a5.trans b5, b6⟩
  ·cases ho
theorem join_rel {s : S4} {v w : V} {c1 c2 : List Value} (h1 : RelC s v c1) (h2 : RelC s w c2) : RelC s (V.join v w) (c1 ++ c2) := by
 unfold V.join
 split
 ·simp only [RelC, RelD] at h1 h2 ⊢
  exact ⟨c1, c2, rfl, h1, h2⟩
 ·simp only [RelC]
  exact ⟨c1, c2, rfl, h1, h2⟩
theorem join_sk {v w : V} : (V.join v w).sk = .cons v.sk w.sk := by
 unfold V.join
 split <;> rfl
theorem norm_sk {sub : Sub} : ∀ {v : V}, (v.norm sub).sk = v.sk
 | .d _ _ => rfl
 | .cons a b => by simp only [V.norm, join_sk, V.sk, norm_sk (v := a), norm_sk (v := b)]
 | .nil => rfl
 | .nilsl => rfl
 | .dfull _ _ => rfl
 | .row k => by simp only [V.norm]; split <;> first | rfl | (cases sub.kp.contains k <;> rfl)
 | .rsub k _ _ => by simp only [V.norm]; split <;> rfl
 | .pvar k _ => by simp only [V.norm]; split <;> rfl
 | .prow k _ _ => by simp only [V.norm]; split <;> rfl
 | .pdeep _ _ => rfl
 | .fn _ _ _ => rfl
 | .tup _ => rfl
 | .mp _ => by simp only [V.norm]; split <;> rfl
 | .mapd _ _ => rfl
 | .hrow _ _ _ _ _ => rfl
 | .str _ => rfl
 | .drow _ _ _ _ _ => rfl
 | .dsl _ _ _ _ => rfl
 | .dpi _ _ _ _ _ => rfl
 | .undef => rfl
theorem norm_isH {sub : Sub} {v : V} (h : v.isH = false) : (v.norm sub).isH = false := by
 cases v with
 | hrow _ _ _ _ _ => cases h
 | drow _ _ _ _ _ => cases h
 | cons a b => simp only [V.norm]; unfold V.join; split <;> rfl
 | row k => simp only [V.norm]; split <;> first | rfl | (cases sub.kp.contains k <;> rfl)
 | rsub k _ _ => simp only [V.norm]; split <;> rfl
 | pvar k _ => simp only [V.norm]; split <;> rfl
 | prow k _ _ => simp only [V.norm]; split <;> rfl
 | mp k => simp only [V.norm]; split <;> rfl
 | _ => rfl
theorem norm_agg {sub : Sub} {v : V} : (v.norm sub).agg = v.agg := by unfold V.agg; rw [norm_sk]
structure Turn (s : S4) (sub : Sub) (H2 : HF) (pv pr pq : Nat → Nat) (U2 : Nat → Prop) : Prop where
 row : ∀ k k', assoc sub.row k = some k' → pr k' = k ∧ (s.U k → U2 k')
 var : ∀ k k', assoc sub.var k = some k' → pv k' = k ∧ (s.U k → U2 k')
 row2 : ∀ k' r, H2.row k' = some r → s.H.row (pr k') = some r ∧ (s.U (pr k') → U2 k')
 kp : ∀ k, k ∈ sub.kp → pr k = k ∧ (s.U k → U2 k)
 var2 : ∀ k' c', H2.var k' = some c' → (∃ c, s.H.pv (pv k') = some c ∧ c' = c.norm sub ∧ (s.U (pv k') → U2 k')) ∨
  ∃ v r xs q q', s.H.var k' = some (.drow v r xs q none) ∧ c' = .drow v r xs q' none ∧ pq q' = q ∧ U2 q' ∧ pv k' = k' ∧ pr k' = k' ∧ (s.U k' → U2 k')
 dn0 : ∀ k v r xs q ho, s.H.var k = some (.drow v r xs q ho) → s.H.row k = none
 hrn : ∀ k', H2.var k' ≠ none → s.H.row (pr k') = none → H2.row k' = none
 injr : ∀ k l r r', H2.row k = some r → H2.row l = some r' → k ≠ l → pr k ≠ pr l
 injv : ∀ k l c c', H2.var k = some c → H2.var l = some c' → k ≠ l → pv k ≠ pv l
 un : ∀ k, U2 k → k < H2.nx
 dn : H2.dn = s.H.dn
def S4.turned (s : S4) (H2 : HF) (pv pr pq : Nat → Nat) (U2 : Nat → Prop) : S4 := { W := s.W, I := s.I, H := H2, ρ := { var := fun k => s.ρ.var (pv k), row := fun k => s.ρ.row (pr k), fam := fun q => s.ρ.fam (pq q) }, U := U2, cur := s.cur }
section
variable {s : S4} {sub : Sub} {H2 : HF} {pv pr pq : Nat → Nat} {U2 : Nat → Prop} (h : Turn s sub H2 pv pr pq U2)
include h
theorem turn_nh {k : Nat} {c : V} (hc : H2.var k = some c) : (c.isH = false ∧ ∃ d, s.H.pv (pv k) = some d ∧ c = d.norm sub ∧ (s.U (pv k) → U2 k)) ∨
  ∃ v r xs q q', s.H.var k = some (.drow v r xs q none) ∧ c = .drow v r xs q' none ∧ pq q' = q ∧ U2 q' ∧ pv k = k ∧ pr k = k ∧ (s.U k → U2 k) := by
 rcases h.var2 k c hc with ⟨d, h1, rfl, h2⟩ | h1
 ·exact .inl ⟨norm_isH (pv_var h1).2, d, h1, rfl, h2⟩
 ·exact .inr h1
theorem turn_pv {k : Nat} {c : V} (hc : H2.pv k = some c) : ∃ d, s.H.pv (pv k) = some d ∧ c = d.norm sub ∧ (s.U (pv k) → U2 k) := by
 obtain ⟨h1, h2⟩ := pv_var hc
 rcases turn_nh h h1 with ⟨_, h3⟩ | ⟨v, r, xs, q, q', _, rfl, _⟩
 ·exact h3
 ·cases h2
theorem turn_var {k : Nat} {c : V} (hc : H2.var k = some c) : ∃ d, s.H.var (pv k) = some d ∧ (s.U (pv k) → U2 k) := by
 rcases turn_nh h hc with ⟨_, d, h1, _, h2⟩ | ⟨v, r, xs, q, q', h1, _, _, _, h2, _, h3⟩
 ·exact ⟨d, (pv_var h1).1, h2⟩
 ·rw [h2]; exact ⟨_, h1, h3⟩
theorem turn_geo {k : Nat} {g : Geo} (hg : H2.geo k = some g) : s.H.geo (pr k) = some g := by
 unfold HF.geo at hg
 split at hg
 ·rename_i r hr
  rw [geo_row (h.row2 k r hr).1]; exact hg
 ·rename_i hrn
  split at hg
  ·rename_i hc
   rcases turn_nh h hc with ⟨h1, _⟩ | ⟨v, r, xs, q, q', _, h1, _⟩
   ·cases h1
   ·cases h1
  ·rename_i hc
   rcases turn_nh h hc with ⟨h1, _⟩ | ⟨v, r, xs, q, q', h1, h2, _, _, _, h3, _⟩
   ·cases h1
   ·injection h2 with e1 e2 e3 e4 e5
    subst e1 e2
    have e3 := eq_of_heq e3
    subst e3
    rw [h3]
    unfold HF.geo
    rw [h.dn0 _ _ _ _ _ _ h1, h1]
    exact hg
  ·cases hg
mutual
theorem norm_rel : ∀ {v : V} {cs : List Value}, RelC s v cs → RelC (s.turned H2 pv pr pq U2) (v.norm sub) cs
 | .d u x, cs, hr => by simp only [V.norm, RelC] at hr ⊢; exact hr
 | .cons a b, cs, hr => by
  simp only [RelC] at hr
  obtain ⟨c1, c2, rfl, h1, h2⟩ := hr
  simp only [V.norm]
  exact join_rel (norm_rel h1) (norm_rel h2)
 | .nil, cs, hr => by simp only [V.norm, RelC, RelD] at hr ⊢; exact hr
 | .nilsl, cs, hr => by simp only [V.norm, RelC] at hr ⊢; exact hr
 | .dfull u xs, cs, hr => by simp only [V.norm, RelC] at hr ⊢; exact hr
 | .row k, cs, hr => by
  simp only [RelC] at hr
  obtain ⟨hu, v, rfl, h1, hr⟩ := hr
  simp only [V.norm]
  split
  ·rename_i k' hk
   obtain ⟨e, hU⟩ := h.row k k' hk
   simp only [RelC]
   refine ⟨hU hu, v, rfl, h1, fun r hr' => ?_⟩
   have := turn_geo h hr'
   rw [e] at this
   show RowV s.W (s.ρ.row (pr k')) _ _ _ _
   rw [e]
   exact hr r this
  ·cases hkp : sub.kp.contains k with
   | false =>
    simp only [cond_false, RelC]
    exact ⟨v, rfl, h1⟩
   | true =>
    obtain ⟨e, hU⟩ := h.kp k (by simpa using hkp)
    simp only [cond_true, RelC]
    refine ⟨hU hu, v, rfl, h1, fun r hr' => ?_⟩
    have := turn_geo h hr'
    rw [e] at this
    show RowV s.W (s.ρ.row (pr k)) _ _ _ _
    rw [e]
    exact hr r this
 | .rsub k o n, cs, hr => by
  simp only [RelC] at hr
  obtain ⟨hu, v, rfl, h1, hr⟩ := hr
  simp only [V.norm]
  split
  ·rename_i k' hk
   obtain ⟨e, hU⟩ := h.row k k' hk
   simp only [RelC]
   refine ⟨hU hu, v, rfl, h1, fun r hr' => ?_⟩
   have := turn_geo h hr'
   rw [e] at this
   show o + n ≤ r.n ∧ RowV s.W (s.ρ.row (pr k')) _ _ _ _
   rw [e]
   exact hr r this
  ·simp only [RelC]
   exact ⟨v, rfl, h1⟩
 | .pvar k p, cs, hr => by
  simp only [RelC] at hr
  obtain ⟨hu, v, rfl, h1, hr⟩ := hr
  simp only [V.norm]
  split
  ·rename_i k' hk
   obtain ⟨e, hU⟩ := h.var k k' hk
   simp only [RelC]
   refine ⟨hU hu, v, rfl, h1, fun c' hc' => ?_⟩
   obtain ⟨c, hc, rfl, _⟩ := turn_pv h hc'
   rw [e] at hc
   show (c.norm sub).sk ≠ .int .i64 ∧ ∃ o, (c.norm sub).sk.off p = some o ∧ v = .pointer (some ⟨s.ρ.var (pv k'), o, none⟩)
   rw [e, norm_sk]
   exact hr c hc
  ·simp only [RelC]
   exact ⟨v, rfl, h1⟩
 | .prow k i p, cs, hr => by
  simp only [RelC] at hr
  obtain ⟨hu, v, rfl, h1, hr⟩ := hr
  simp only [V.norm]
  split
  ·rename_i k' hk
   obtain ⟨e, hU⟩ := h.row k k' hk
   simp only [RelC]
   refine ⟨hU hu, v, rfl, h1, fun r hr' => ?_⟩
   have := turn_geo h hr'
   rw [e] at this
   show ∃ b base o, s.ρ.row (pr k') = some (b, base) ∧ _
   rw [e]
   exact hr r this
  ·simp only [RelC]
   exact ⟨v, rfl, h1⟩
 | .pdeep u x, cs, hr => by simp only [V.norm, RelC] at hr ⊢; exact hr
 | .fn f a b, cs, hr => by
  simp only [V.norm, RelC] at hr ⊢
  rcases hr with ⟨rfl, X, rfl, h1⟩ | ⟨l, m, rfl, h1, h2⟩
  ·exact .inl ⟨rfl, X, rfl, normL_rel h1⟩
  ·exact .inr ⟨l, m, rfl, normL_rel h1, normL_rel h2⟩
 | .tup _, cs, hr => by simp only [RelC] at hr
 | .mp k, cs, hr => by
  simp only [RelC] at hr
  obtain ⟨hu, v, rfl, h1, hr⟩ := hr
  simp only [V.norm]
  split
  ·rename_i k' hk
   obtain ⟨e, hU⟩ := h.var k k' hk
   simp only [RelC]
   refine ⟨hU hu, v, rfl, h1, fun c' hc' => ?_⟩
   obtain ⟨c, hc, rfl, _⟩ := turn_pv h hc'
   rw [e] at hc
   show (c.norm sub).sk = .int .i64 ∧ v = .map (some (s.ρ.var (pv k')))
   rw [e, norm_sk]
   exact hr c hc
  ·simp only [RelC]
   exact ⟨v, rfl, h1⟩
 | .mapd _ _, cs, hr => by simp only [RelC] at hr
 | .hrow _ _ _ _ _, cs, hr => by simp only [RelC] at hr
 | .str _, cs, hr => by simp only [V.norm, RelC] at hr ⊢; exact hr
 | .drow _ _ _ _ _, cs, hr => by simp only [RelC] at hr
 | .dsl _ _ _ _, cs, hr => by
  simp only [V.norm, RelC] at hr ⊢
  obtain ⟨_, v, e, h1, _⟩ := hr
  exact ⟨v, e, h1⟩
 | .dpi _ _ _ _ _, cs, hr => by
  simp only [V.norm, RelC] at hr ⊢
  obtain ⟨_, v, e, h1, _⟩ := hr
  exact ⟨v, e, h1⟩
 | .undef, cs, hr => by simp only [V.norm, RelC] at hr ⊢; exact hr
theorem normL_rel : ∀ {v : V} {l : List Value}, RelL s v l → RelL (s.turned H2 pv pr pq U2) (V.norm.normL sub v) l
 | .cons a b, l, hr => by
  simp only [RelL] at hr
  obtain ⟨v, r, cs, rfl, h1, h2, h3⟩ := hr
  simp only [V.norm.normL, RelL]
  exact ⟨v, r, cs, rfl, norm_rel h1, by rw [norm_agg]; exact h2, normL_rel h3⟩
 | .nil, l, hr => by simp only [RelL] at hr; simp only [V.norm.normL, RelL]; exact hr
 | .d _ _, _, hr => by simp only [RelL] at hr
 | .nilsl, _, hr => by simp only [RelL] at hr
 | .dfull _ _, _, hr => by simp only [RelL] at hr
 | .row _, _, hr => by simp only [RelL] at hr
 | .rsub _ _ _, _, hr => by simp only [RelL] at hr
 | .pvar _ _, _, hr => by simp only [RelL] at hr
 | .prow _ _ _, _, hr => by simp only [RelL] at hr
 | .pdeep _ _, _, hr => by simp only [RelL] at hr
 | .fn _ _ _, _, hr => by simp only [RelL] at hr
 | .tup _, _, hr => by simp only [RelL] at hr
 | .mp _, _, hr => by simp only [RelL] at hr
 | .mapd _ _, _, hr => by simp only [RelL] at hr
 | .hrow _ _ _ _ _, _, hr => by simp only [RelL] at hr
 | .str _, _, hr => by simp only [RelL] at hr
 | .drow _ _ _ _ _, _, hr => by simp only [RelL] at hr
 | .dsl _ _ _ _, _, hr => by simp only [RelL] at hr
 | .dpi _ _ _ _ _, _, hr => by simp only [RelL] at hr
 | .undef, _, hr => by simp only [RelL] at hr
end
theorem normO_rel {c : V} {o : Obj} (hh : c.isH = false) (hr : RelO s c o) : RelO (s.turned H2 pv pr pq U2) (c.norm sub) o := by
 unfold RelO at hr
 split at hr
 ·cases hh
 ·exact hr
 ·cases hh
 ·obtain ⟨cs, t, rfl, hr⟩ := hr
  exact relO_of (norm_rel h hr)
theorem normL0_rel : ∀ {v : V} {l : List Value}, RelVL0 s v l → RelVL0 (s.turned H2 pv pr pq U2) (V.norm.normL sub v) l := by
 intro v
 induction v with
 | cons a b _ ih =>
  rintro l ⟨x, r, rfl, h1, h2⟩
  refine ⟨x, r, rfl, ?_, ih h2⟩
  rcases h1 with rfl | ⟨cs, h1, h3⟩
  ·exact .inl rfl
  ·exact .inr ⟨cs, norm_rel h h1, by rw [norm_agg]; exact h3⟩
 | nil => intro l hr; exact hr
 | _ => intro l hr; simp only [RelVL0] at hr
theorem normV_rel {v : V} {x : Value} (hr : RelV s v x) : RelV (s.turned H2 pv pr pq U2) (v.norm sub) x := by
 cases v with
 | tup w => exact relV_undef
 | undef => exact relV_undef
 | fn f a b =>
  cases hY : (V.fn f a b).isY with
  | false =>
   obtain ⟨cs, h1, h2⟩ := hr.get (by intro h; cases h) (by intro w h; cases h) hY
   exact relV_of (norm_rel h h1) (by rw [norm_agg]; exact h2)
  | true =>
   obtain ⟨w, rfl⟩ : ∃ w, b = .tup w := by
    cases b <;> simp [V.isY] at hY
    exact ⟨_, rfl⟩
   rcases hr with hr | ⟨cs, ⟨_, l, r, q, rfl, hy⟩, h2⟩
   ·cases hr
   ·exact .inr ⟨_, ⟨rfl, l, r, q, rfl, hy.i, hy.cu, fun hd => hy.w (h.dn.symm.trans hd), hy.st, hy.pe, hy.hq, hy.hp, hy.ha, hy.hb, hy.nt, normL0_rel h hy.v⟩, h2⟩
 | _ =>
  obtain ⟨cs, h1, h2⟩ := hr.get (by intro h; cases h) (by intro w h; cases h)
  exact relV_of (norm_rel h h1) (by rw [norm_agg]; exact h2)
theorem memOk_turned {B : Nat} (hm : MemOk B s) : MemOk B (s.turned H2 pv pr pq U2) where
 ilt := hm.ilt
 bsz := hm.bsz
 un := h.un
 var := fun k c' hc' => by
  rcases turn_nh h hc' with ⟨_, c, hc, rfl, hU⟩ | ⟨v, r, xs, q, q', g1, rfl, g2, g3, g4, g5, g6⟩
  ·obtain ⟨h1, h2, h3, o, h4, h5⟩ := hm.var _ c (pv_var hc).1
   exact ⟨hU h1, h2, h3, o, h4, normO_rel h (pv_var hc).2 h5⟩
  ·obtain ⟨h1, h2, h3, o, h4, h5⟩ := hm.var _ _ g1
   refine ⟨g6 h1, ?_, ?_, o, ?_, h5⟩
   ·show B ≤ s.ρ.var (pv k)
    rw [g4]; exact h2
   ·show ¬ s.I (s.ρ.var (pv k))
    rw [g4]; exact h3
   ·show s.W.heap[s.ρ.var (pv k)]? = _
    rw [g4]; exact h4
 row := fun k r hr => by
  obtain ⟨hr, hU⟩ := h.row2 k r hr
  obtain ⟨h1, h2, h3⟩ := hm.row _ r hr
  exact ⟨hU h1, h2, h3⟩
 vv := fun k l c c' hkl h1 h2 => by
  obtain ⟨d, g1, _⟩ := turn_var h h1
  obtain ⟨d', g2, _⟩ := turn_var h h2
  exact hm.vv _ _ d d' (h.injv k l c c' h1 h2 hkl) g1 g2
 rr := fun k l r r' b b0 b1 hkl h1 h2 w1 w2 p1 p2 =>
  hm.rr _ _ r r' b b0 b1 (h.injr k l r r' h1 h2 hkl) (h.row2 k r h1).1 (h.row2 l r' h2).1 w1 w2 p1 p2
 vr := fun k l c r b b0 h1 h2 w p => by
  obtain ⟨d, g1, _⟩ := turn_var h h1
  exact hm.vr _ _ d r b b0 g1 (h.row2 l r h2).1 w p
 hk := fun k c hc h1 => by
  rcases turn_nh h hc with ⟨h2, _⟩ | ⟨v, r, xs, q, q', g1, rfl, g2, g3, g4, g5, g6⟩
  ·rw [h2] at h1; cases h1
  ·obtain ⟨e1, ⟨base, e2⟩, _⟩ := hm.hk k _ g1 rfl
   refine ⟨h.hrn k (fun h => by have h : H2.var k = none := h; have hc : H2.var k = _ := hc; rw [h] at hc; cases hc) (by rw [g5]; exact e1), ⟨base, ?_⟩, .inr ⟨v, r, xs, q', none, rfl⟩⟩
   show s.ρ.row (pr k) = some (s.ρ.var (pv k), base)
   rw [g4, g5]
   exact e2
 dj := by
  have tk : ∀ b, Tk (s.turned H2 pv pr pq U2) b → Tk s b := by
   rintro b (hb | ⟨l, c, g1, g2⟩ | ⟨l, r, base, g1, g2, g3⟩)
   ·exact .inl hb
   ·obtain ⟨d, e1, _⟩ := turn_var h g1
    exact .inr (.inl ⟨_, d, e1, g2⟩)
   ·exact .inr (.inr ⟨_, r, base, (h.row2 l r g1).1, g2, g3⟩)
  have inb : ∀ k i b, InB (s.turned H2 pv pr pq U2) k i b → InB s k i b ∧ pv k = k := by
   rintro k i b ⟨v, r, xs, q', ho, h1, h2, h3, o, len, cap, h4, h5⟩
   rcases turn_nh h h1 with ⟨h2, _⟩ | ⟨v', r', xs', q, q2, g1, e, g2, g3, g4, g5, g6⟩
   ·cases h2
   ·injection e with e1 e2 e3 e4 e5
    subst e1 e2 e4 e5
    have e3 := eq_of_heq e3
    subst e3
    refine ⟨⟨v, r, xs, q, none, g1, h2, h3, o, len, cap, ?_, h5⟩, g4⟩
    rw [← g2]
    exact h4
  refine ⟨fun k v r xs q' ho hk => ?_, fun k i l j b h1 h2 => hm.dj.one k i l j b (inb k i b h1).1 (inb l j b h2).1⟩
  rcases turn_nh h hk with ⟨h2, _⟩ | ⟨v', r', xs', q, q2, g1, e, g2, g3, g4, g5, g6⟩
  ·cases h2
  ·injection e with e1 e2 e3 e4 e5
   subst e1 e2 e4 e5
   have e3 := eq_of_heq e3
   subst e3
   obtain ⟨u1, u2, u3, base, cs, t, f1, f2, f3, f4⟩ := hm.dj.el k v r xs q none g1
   refine ⟨g6 u1, g3, u3, base, cs, t, ?_, ?_, f3, fun i x hi hh => ?_⟩
   ·show s.ρ.row (pr k) = some (s.ρ.var (pv k), base)
    rw [g4, g5]; exact f1
   ·show s.W.heap[s.ρ.var (pv k)]? = _
    rw [g4]; exact f2
   ·obtain ⟨c1, c2, c3⟩ := f4 i x hi hh
    show DEl B _ v r x (s.ρ.fam (pq q') i) cs _
    rw [g2]
    refine ⟨c1, c2.mono (fun h => h) (fun b o len cap _ _ => ⟨rfl, tk b⟩), c3⟩
theorem ext_turned {B : Nat} {s0 : S4} (hx : Ext B s0 s) {n0 : Nat} (h0 : ∀ k, s0.U k → k < n0) (hnx : s0.H.nx ≤ H2.nx) (hpv : ∀ k, k < n0 → pv k = k) (hpr : ∀ k, k < n0 → pr k = k) (hpq : ∀ k, k < n0 → pq k = k) (hU : ∀ k, k < n0 → s.U k → U2 k) : Ext B s0 (s.turned H2 pv pr pq U2) where
 i := hx.i
 inew := hx.inew
 w := fun b hb => by
  have hd : (s.turned H2 pv pr pq U2).H.dn = s.H.dn := h.dn
  rcases hx.w b hb with ⟨e, n⟩ | ⟨e1, e2, e3, e4⟩
  ·exact .inl ⟨e, by rw [hd]; exact n⟩
  ·exact .inr ⟨e1, e2, hd.trans e3, e4⟩
 cu := hx.cu
 dm := fun hd => h.dn.trans (hx.dm hd)
 below := hx.below
 u := fun k hk => hU k (h0 k hk) (hx.u k hk)
 nx := hnx
 var := fun k c' hk hc' => by
  obtain ⟨c, hc, rfl, _⟩ := turn_pv h hc'
  rw [hpv k (h0 k hk)] at hc
  obtain ⟨d, g1, g2, g3⟩ := hx.var k c hk hc
  refine ⟨d, g1, by rw [norm_sk]; exact g2, ?_⟩
  show s.ρ.var (pv k) = _
  rw [hpv k (h0 k hk)]
  exact g3
 row := fun k r hk hr => by
  have hr := turn_geo h hr
  rw [hpr k (h0 k hk)] at hr
  exact hx.row k r hk hr
 pl := fun k hk => by
  show s.ρ.row (pr k) = _
  rw [hpr k (h0 k hk)]
  exact hx.pl k hk
 fam := fun q hq => by
  show s.ρ.fam (pq q) = _
  rw [hpq q (h0 q hq)]
  exact hx.fam q hq
end
end Go.Proofs.YtdokfjkihjkcmaaGreatDoor.Den

/- What an operation reads and writes of the evaluator's memory. -/
namespace Go.Proofs.YtdokfjkihjkcmaaGreatDoor.Den
open Go Go.RowKit
set_option linter.unusedVariables false
set_option linter.unusedSectionVars false
def Agree (D : Nat → Prop) (H H2 : HF) : Prop := ∀ k, D k → H2.var k = H.var k ∧ H2.row k = H.row k
structure Patch (A : Nat → Prop) (H' H2 H2' : HF) : Prop where
 on : ∀ k, A k → H2'.var k = H'.var k ∧ H2'.row k = H'.row k
 off : ∀ k, ¬ A k → H2'.var k = H2.var k ∧ H2'.row k = H2.row k
 nx : H2'.nx = H2.nx
 dn : H2'.dn = H2.dn
def Res.setH (H2 : HF) : Res → Res
 | .fail => .fail
 | .ok v _ => .ok v H2
 | .ite c a b => .ite c (a.setH H2) (b.setH H2)
 | .opt r o k => .opt r o fun y => (k y).setH H2
def Res.isH (H : HF) : Res → Prop
 | .fail => True
 | .ok _ H' => H' = H
 | .ite _ a b => a.isH H ∧ b.isH H
 | .opt _ _ k => ∀ y, (k y).isH H
theorem Res.to_setH {H2 : HF} : ∀ {r : Res} {v : V} {H' : HF}, r.to v H' → (r.setH H2).to v H2
 | .fail, _, _, h => h
 | .ok _ _, _, _, h => ⟨h.1, rfl⟩
 | .ite c a b, _, _, h => h.imp (fun e => ⟨e.1, Res.to_setH e.2⟩) (fun e => ⟨e.1, Res.to_setH e.2⟩)
 | .opt r o k, _, _, h => by
  obtain ⟨x, h1, h2⟩ := h
  exact ⟨x, h1, Res.to_setH h2⟩
theorem Res.to_isH {H : HF} : ∀ {r : Res} {v : V} {H' : HF}, r.isH H → r.to v H' → H' = H
 | .fail, _, _, _, h => h.elim
 | .ok _ _, _, _, hi, h => h.2.symm.trans hi
 | .ite c a b, _, _, hi, h => h.elim (fun e => Res.to_isH hi.1 e.2) (fun e => Res.to_isH hi.2 e.2)
 | .opt r o k, _, _, hi, h => by
  obtain ⟨x, h1, h2⟩ := h
  exact Res.to_isH (hi x) h2
theorem Res.to_det : ∀ {r : Res} {v v' : V} {H H' : HF}, r.to v H → r.to v' H' → v = v' ∧ H = H'
 | .fail, _, _, _, _, h, _ => h.elim
 | .ok _ _, _, _, _, _, h, g => ⟨h.1.symm.trans g.1, h.2.symm.trans g.2⟩
 | .ite c a b, _, _, _, _, h, g => by
  rcases h with ⟨e, h⟩ | ⟨e, h⟩ <;> rcases g with ⟨e', g⟩ | ⟨e', g⟩
  ·exact Res.to_det h g
  ·rw [e] at e'; cases e'
  ·rw [e] at e'; cases e'
  ·exact Res.to_det h g
 | .opt r o k, _, _, _, _, h, g => by
  obtain ⟨x, h1, h2⟩ := h
  obtain ⟨y, g1, g2⟩ := g
  rw [h1] at g1
  injection g1 with g1
  subst g1
  exact Res.to_det h2 g2
theorem selP_setH {H H2 : HF} {k : Nat} {p : List Step} {i : Int} : ∀ {n j : Nat}, selP H2 k p i n j = (selP H k p i n j).setH H2
 | 0, _ => rfl
 | n + 1, j => by simp only [selP, Res.setH]; rw [selP_setH (H := H)]
theorem loadD_setH {E : TE} {H H2 : HF} {t k i : Nat} {p : List Step} {o : Option V} : loadD E H2 t k i p o = (loadD E H t k i p o).setH H2 := by
 unfold loadD
 repeat' (split <;> first | rfl | contradiction | skip)
theorem loadI_setH {E : TE} {H H2 : HF} {t : Nat} {u : U} {q i j : Nat} {o : Option V} : loadI E H2 t u q i j o = (loadI E H t u q i j o).setH H2 := by
 unfold loadI
 repeat' (split <;> first | rfl | contradiction | skip)
theorem indexD_setH {H H2 : HF} {u : U} {k q j n : Nat} {i : Int} {o : Option V} : indexD H2 u k q j n i o = (indexD H u k q j n i o).setH H2 := by
 unfold indexD
 repeat' (split <;> first | rfl | contradiction | skip)
section
variable {D : Nat → Prop} {H H2 : HF} (hA : Agree D H H2)
include hA
theorem deepen_agree : ∀ {u : U} {v : V}, (∀ k ∈ v.keys, D k) → deepen H2 u v = deepen H u v
 | u, .d u' x, h => by simp only [deepen]
 | .cons a b, .cons va vb, h => by
  simp only [deepen]
  rw [deepen_agree (v := va) (fun k hk => h k (by simp [V.keys, hk])), deepen_agree (v := vb) (fun k hk => h k (by simp [V.keys, hk]))]
 | .sl u, .row k, h => by simp only [deepen, (hA k (h k (by simp [V.keys]))).2]
 | .sl u, .rsub k _ _, h => by simp only [deepen, (hA k (h k (by simp [V.keys]))).2]
 | .nil, .nil, h => by simp only [deepen]
 | .sl u, .nilsl, h => by simp only [deepen]
 | .sl u, .dfull _ _, h => by simp only [deepen]
 | .int _, .cons _ _, _ => rfl
 | .int _, .nil, _ => rfl
 | .int _, .nilsl, _ => rfl
 | .int _, .dfull _ _, _ => rfl
 | .int _, .row _, _ => rfl
 | .int _, .rsub _ _ _, _ => rfl
 | .bool, .cons _ _, _ => rfl
 | .fn, .cons _ _, _ => rfl
 | .bool, .nil, _ => rfl
 | .fn, .nil, _ => rfl
 | .bool, .nilsl, _ => rfl
 | .fn, .nilsl, _ => rfl
 | .bool, .dfull _ _, _ => rfl
 | .fn, .dfull _ _, _ => rfl
 | .bool, .row _, _ => rfl
 | .fn, .row _, _ => rfl
 | .bool, .rsub _ _ _, _ => rfl
 | .fn, .rsub _ _ _, _ => rfl
 | .sl _, .cons _ _, _ => rfl
 | .sl _, .nil, _ => rfl
 | .arr _ _, .cons _ _, _ => rfl
 | .arr _ _, .nil, _ => rfl
 | .arr _ _, .nilsl, _ => rfl
 | .arr _ _, .dfull _ _, _ => rfl
 | .arr _ _, .row _, _ => rfl
 | .arr _ _, .rsub _ _ _, _ => rfl
 | .nil, .cons _ _, _ => rfl
 | .nil, .nilsl, _ => rfl
 | .nil, .dfull _ _, _ => rfl
 | .nil, .row _, _ => rfl
 | .nil, .rsub _ _ _, _ => rfl
 | .cons _ _, .nil, _ => rfl
 | .cons _ _, .nilsl, _ => rfl
 | .cons _ _, .dfull _ _, _ => rfl
 | .cons _ _, .row _, _ => rfl
 | .cons _ _, .rsub _ _ _, _ => rfl
 | u, .pvar _ _, _ => by cases u <;> rfl
 | u, .prow _ _ _, _ => by cases u <;> rfl
 | u, .pdeep _ _, _ => by cases u <;> rfl
 | u, .fn _ a b, _ => by cases u <;> first | rfl | (cases a <;> first | rfl | (cases b <;> rfl))
 | u, .tup _, _ => by cases u <;> rfl
 | u, .mp _, _ => by cases u <;> rfl
 | u, .mapd _ _, _ => by cases u <;> rfl
 | u, .hrow _ _ _ _ _, _ => by cases u <;> rfl
 | u, .str _, _ => by cases u <;> rfl
 | u, .drow _ _ _ _ _, _ => by cases u <;> rfl
 | u, .dsl _ _ _ _, _ => by cases u <;> rfl
 | u, .dpi _ _ _ _ _, _ => by cases u <;> rfl
 | u, .undef, _ => by cases u <;> rfl
theorem lenV_agree {v : V} (h : ∀ k ∈ v.keys, D k) : lenV H2 v = lenV H v := by
 cases v with
 | row k => simp only [lenV, (hA k (h k (by simp [V.keys]))).2]
 | rsub k _ _ => simp only [lenV, (hA k (h k (by simp [V.keys]))).2]
 | d u x => cases u <;> rfl
 | _ => rfl
theorem fitsZ_agree {z : Nat} {v : V} (h : ∀ k ∈ v.keys, D k) : fitsZ H2 z v = fitsZ H z v := by
 cases v with
 | row k => simp only [fitsZ, (hA k (h k (by simp [V.keys]))).2]
 | rsub k _ _ => simp only [fitsZ, (hA k (h k (by simp [V.keys]))).2]
 | d u x => cases u <;> rfl
 | _ => rfl
theorem loadV_agree {E : TE} {t : Nat} {v : V} (h : ∀ k ∈ v.keys, D k) : loadV E H2 t v = (loadV E H t v).setH H2 := by
 cases v with
 | pvar k p =>
  simp only [loadV, pv_eq (hA k (h k (by simp [V.keys]))).1]
  repeat' (split <;> first | rfl | contradiction | skip)
 | prow k i p =>
  simp only [loadV, (hA k (h k (by simp [V.keys]))).2, (hA k (h k (by simp [V.keys]))).1]
  repeat' (split <;> first | rfl | contradiction | exact loadD_setH | skip)
 | dpi u k q i j =>
  simp only [loadV, (hA k (h k (by simp [V.keys]))).1]
  exact loadI_setH
 | pdeep u x =>
  simp only [loadV]
  repeat' (split <;> first | rfl | contradiction | skip)
 | _ => rfl
theorem fieldV_agree {E : TE} {t f : Nat} {v : V} (h : ∀ k ∈ v.keys, D k) : fieldV E H2 t f v = (fieldV E H t f v).setH H2 := by
 cases v with
 | pvar k p =>
  simp only [fieldV, pv_eq (hA k (h k (by simp [V.keys]))).1]
  repeat' (split <;> first | rfl | contradiction | skip)
 | prow k i p =>
  simp only [fieldV, geo_eq (hA k (h k (by simp [V.keys]))).2 (hA k (h k (by simp [V.keys]))).1]
  repeat' (split <;> first | rfl | contradiction | skip)
 | pdeep u x =>
  simp only [fieldV]
  repeat' (split <;> first | rfl | contradiction | skip)
 | _ => rfl
theorem indexV_agree {E : TE} {t : Nat} {i : Int} {v : V} (h : ∀ k ∈ v.keys, D k) : indexV E H2 t v i = (indexV E H t v i).setH H2 := by
 cases v with
 | pvar k p =>
  simp only [indexV, pv_eq (hA k (h k (by simp [V.keys]))).1]
  repeat' (split <;> first | rfl | contradiction | exact selP_setH | skip)
 | prow k i p =>
  simp only [indexV, (hA k (h k (by simp [V.keys]))).2]
  repeat' (split <;> first | rfl | contradiction | skip)
 | row k =>
  simp only [indexV, geo_eq (hA k (h k (by simp [V.keys]))).2 (hA k (h k (by simp [V.keys]))).1]
  repeat' (split <;> first | rfl | contradiction | skip)
 | rsub k o n =>
  simp only [indexV, (hA k (h k (by simp [V.keys]))).2]
  repeat' (split <;> first | rfl | contradiction | skip)
 | dsl k q j n =>
  simp only [indexV, (hA k (h k (by simp [V.keys]))).1]
  repeat' (split <;> first | rfl | contradiction | exact indexD_setH | skip)
 | pdeep u x =>
  simp only [indexV]
  repeat' (split <;> first | rfl | contradiction | skip)
 | d u x =>
  simp only [indexV]
  repeat' (split <;> first | rfl | contradiction | skip)
 | dfull u x =>
  simp only [indexV]
  repeat' (split <;> first | rfl | contradiction | skip)
 | _ =>
  simp only [indexV]
  repeat' (split <;> first | rfl | contradiction | skip)
theorem cutV_agree {full : Bool} {l h' : Int} {v : V} (h : ∀ k ∈ v.keys, D k) : cutV H2 full v l h' = (cutV H full v l h').setH H2 := by
 unfold cutV
 rw [lenV_agree hA h]
 split
 ·rfl
 ·simp only [Res.setH]
  congr 1
  congr 1
  congr 1
  repeat' (split <;> first | rfl | contradiction | skip)
theorem binV_agree {E : TE} {op : BinOp} {t : Nat} {v w : V} (h : ∀ k ∈ v.keys, D k) (h' : ∀ k ∈ w.keys, D k) : binV E H2 op t v w = (binV E H op t v w).setH H2 := by
 have e1 := fun u => deepen_agree hA (u := u) h
 have e2 := fun u => deepen_agree hA (u := u) h'
 unfold binV
 split
 ·repeat' (split <;> first | rfl | contradiction | skip)
  unfold binI
  split <;> rfl
 ·repeat' (split <;> first | rfl | contradiction | skip)
 ·repeat' (split <;> first | rfl | contradiction | skip)
 ·simp only [e1, e2]
  repeat' (split <;> first | rfl | contradiction | skip)
theorem unV_agree {op : UnOp} {v : V} : unV H2 op v = (unV H op v).setH H2 := by
 unfold unV
 repeat' (split <;> first | rfl | contradiction | skip)
end
end Go.Proofs.YtdokfjkihjkcmaaGreatDoor.Den

/- Each operation keeps to its own part of the evaluator's memory. -/
namespace Go.Proofs.YtdokfjkihjkcmaaGreatDoor.Den
open Go Go.RowKit
set_option linter.unusedVariables false
set_option linter.unusedSectionVars false
def Loc (A : Nat → Prop) (f : HF → Res) : Prop := ∀ H H2 v H', Agree A H H2 → (f H).to v H' → ∃ H2', (f H2).to v H2' ∧ Patch A H' H2 H2'
theorem Agree.patch {A : Nat → Prop} {H H2 : HF} (h : Agree A H H2) : Patch A H H2 H2 := ⟨h, fun _ _ => ⟨rfl, rfl⟩, rfl, rfl⟩
theorem loc_setH {A : Nat → Prop} {f : HF → Res} (hf : ∀ H H2, Agree A H H2 → f H2 = (f H).setH H2) : Loc A f := by
 intro H H2 v H' hA h
 have e := hf H H (fun _ _ => ⟨rfl, rfl⟩)
 have h1 := Res.to_setH (H2 := H) h
 rw [← e] at h1
 obtain ⟨_, rfl⟩ := Res.to_det h h1
 exact ⟨H2, by rw [hf H' H2 hA]; exact Res.to_setH h, hA.patch⟩
theorem keep_setH {f : HF → Res} {H H' : HF} {v : V} (e : f H = (f H).setH H) (h : (f H).to v H') : H' = H := by
 have h1 := Res.to_setH (H2 := H) h
 rw [← e] at h1
 exact (Res.to_det h h1).2
section
variable {A : Nat → Prop} {H H' H2 H2' : HF}
theorem Patch.setVar (h : Patch A H' H2 H2') {k : Nat} (hk : A k) (c : V) : Patch A (H'.setVar k c) H2 (H2'.setVar k c) where
 on := fun j hj => by
  have := h.on j hj
  unfold HF.setVar
  exact ⟨by simp only [this.1], this.2⟩
 off := fun j hj => by
  have := h.off j hj
  have hne : j ≠ k := fun e => hj (e ▸ hk)
  unfold HF.setVar
  exact ⟨by simp only [nbeq hne, cond_false]; exact this.1, this.2⟩
 nx := h.nx
 dn := h.dn
theorem Patch.setRow (h : Patch A H' H2 H2') {k : Nat} (hk : A k) (r : Row) : Patch A (H'.setRow k r) H2 (H2'.setRow k r) where
 on := fun j hj => by
  have := h.on j hj
  unfold HF.setRow
  exact ⟨this.1, by simp only [this.2]⟩
 off := fun j hj => by
  have := h.off j hj
  have hne : j ≠ k := fun e => hj (e ▸ hk)
  unfold HF.setRow
  exact ⟨this.1, by simp only [nbeq hne, cond_false]; exact this.2⟩
 nx := h.nx
 dn := h.dn
theorem Patch.delRow (h : Patch A H' H2 H2') {k : Nat} (hk : A k) : Patch A (H'.delRow k) H2 (H2'.delRow k) where
 on := fun j hj => by
  have := h.on j hj
  unfold HF.delRow
  exact ⟨this.1, by simp only [this.2]⟩
 off := fun j hj => by
  have := h.off j hj
  have hne : j ≠ k := fun e => hj (e ▸ hk)
  unfold HF.delRow
  exact ⟨this.1, by simp only [nbeq hne, cond_false]; exact this.2⟩
 nx := h.nx
 dn := h.dn
theorem Patch.delVar (h : Patch A H' H2 H2') {k : Nat} (hk : A k) : Patch A (H'.delVar k) H2 (H2'.delVar k) where
 on := fun j hj => by
  have := h.on j hj
  unfold HF.delVar
  exact ⟨by simp only [this.1], this.2⟩
 off := fun j hj => by
  have := h.off j hj
  have hne : j ≠ k := fun e => hj (e ▸ hk)
  unfold HF.delVar
  exact ⟨by simp only [nbeq hne, cond_false]; exact this.1, this.2⟩
 nx := h.nx
 dn := h.dn
theorem Patch.freeze : ∀ {ks : List Nat} {H' H2' : HF}, Patch A H' H2 H2' → (∀ k ∈ ks, A k) → Patch A (H'.freeze ks) H2 (H2'.freeze ks)
 | [], _, _, h, _ => h
 | k :: ks, H', H2', h, hk => by
  have hk0 := hk k (by simp)
  have e := (h.on k hk0).2
  simp only [HF.freeze, e]
  split
  ·exact (h.setRow hk0 _).freeze (fun j hj => hk j (by simp [hj]))
  ·exact h.freeze (fun j hj => hk j (by simp [hj]))
theorem unk_snd : ∀ (u : U) (k : Nat), (u.unk k).2 = k + u.unks
 | .cons a b, k => by simp only [U.unk, U.unks]; rw [unk_snd b, unk_snd a]; omega
 | .nil, k => rfl
 | .int _, k => rfl
 | .bool, k => rfl
 | .fn, k => rfl
 | .sl _, k => rfl
 | .arr _ _, k => rfl
theorem recv_patch : ∀ {r : RU} {x : r.T} {k : Nat} {H' H2' : HF}, Patch A H' H2 H2' → (∀ j, k ≤ j → j < k + r.owns → A j) →
  (r.recv x k H2').1 = (r.recv x k H').1 ∧ (r.recv x k H2').2.1 = (r.recv x k H').2.1 ∧ (r.recv x k H').2.1 = k + r.owns ∧ Patch A (r.recv x k H').2.2 H2 (r.recv x k H2').2.2
 | .d u, x, k, H', H2', h, hk => ⟨rfl, rfl, rfl, h⟩
 | .own u, xs, k, H', H2', h, hk => ⟨rfl, rfl, rfl, h.setRow (hk k (Nat.le_refl _) (by simp [RU.owns])) _⟩
 | .no u, x, k, H', H2', h, hk => ⟨rfl, rfl, unk_snd u k, h⟩
 | .omap u, xs, k, H', H2', h, hk => ⟨rfl, rfl, rfl, h.setVar (hk k (Nat.le_refl _) (by simp [RU.owns])) _⟩
 | .ifc _ _, x, k, H', H2', h, hk => ⟨rfl, rfl, rfl, h⟩
 | .nil, x, k, H', H2', h, hk => ⟨rfl, rfl, rfl, h⟩
 | .cons a b, x, k, H', H2', h, hk => by
  simp only [RU.owns] at hk
  obtain ⟨a1, a2, a3, a4⟩ := recv_patch (r := a) (x := x.1) h (fun j h1 h2 => hk j h1 (by omega))
  obtain ⟨b1, b2, b3, b4⟩ := recv_patch (r := b) (x := x.2) (k := k + a.owns) a4 (fun j h1 h2 => hk j (by omega) (by omega))
  simp only [RU.recv, RU.owns]
  rw [a2, a3, a1]
  exact ⟨by rw [b1], b2, by rw [b3]; omega, b4⟩
end
theorem selA_setH {H H2 : HF} {i : Int} : ∀ {w : V} {k : Nat}, selA H2 i w k = (selA H i w k).setH H2
 | .cons a r, k => by simp only [selA, Res.setH]; rw [selA_setH (H := H)]
 | .d _ _, _ => rfl
 | .nil, _ => rfl
 | .nilsl, _ => rfl
 | .dfull _ _, _ => rfl
 | .row _, _ => rfl
 | .rsub _ _ _, _ => rfl
 | .pvar _ _, _ => rfl
 | .prow _ _ _, _ => rfl
 | .pdeep _ _, _ => rfl
 | .fn _ _ _, _ => rfl
 | .tup _, _ => rfl
 | .mp _, _ => rfl
 | .mapd _ _, _ => rfl
 | .hrow _ _ _ _ _, _ => rfl
 | .str _, _ => rfl
 | .drow _ _ _ _ _, _ => rfl
 | .dsl _ _ _ _, _ => rfl
 | .dpi _ _ _ _ _, _ => rfl
 | .undef, _ => rfl
theorem rows_keys : ∀ {v : V} {k : Nat}, k ∈ v.rows → k ∈ v.keys
 | .cons a b, k, h => by
  simp only [V.rows, List.mem_append] at h
  simp only [V.keys, List.mem_append]
  exact h.imp rows_keys rows_keys
 | .row k, _, h => h
 | .rsub k _ _, _, h => h
 | .tup v, k, h => rows_keys (v := v) h
 | .d _ _, _, h => by simp [V.rows] at h
 | .nil, _, h => by simp [V.rows] at h
 | .nilsl, _, h => by simp [V.rows] at h
 | .dfull _ _, _, h => by simp [V.rows] at h
 | .pvar _ _, _, h => by simp [V.rows] at h
 | .prow _ _ _, _, h => by simp [V.rows] at h
 | .pdeep _ _, _, h => by simp [V.rows] at h
 | .fn _ _ _, _, h => by simp [V.rows] at h
 | .mp _, _, h => by simp [V.rows] at h
 | .mapd _ _, _, h => by simp [V.rows] at h
 | .hrow _ _ _ _ _, _, h => by simp [V.rows] at h
 | .str _, _, h => by simp [V.rows] at h
 | .drow _ _ _ _ _, _, h => by simp [V.rows] at h
 | .dsl _ _ _ _, _, h => by simp [V.rows] at h
 | .dpi _ _ _ _ _, _, h => by simp [V.rows] at h
 | .undef, _, h => by simp [V.rows] at h
theorem lookFn_setH {ok : Bool} {H H2 : HF} {n : Int} : ∀ {ys : List (Int × Nat × Unit)}, lookFn ok H2 n ys = (lookFn ok H n ys).setH H2
 | [] => rfl
 | p :: r => by simp only [lookFn, Res.setH]; rw [lookFn_setH (H := H)]
theorem lookAt_setH {H H2 : HF} {ok : Bool} {n : Int} {u : U} {ys : List (Int × u.T × Unit)} : lookAt H2 ok n u ys = (lookAt H ok n u ys).setH H2 := by
 cases u with
 | fn => exact lookFn_setH
 | _ => rfl
theorem lookup_agree {A : Nat → Prop} {E : TE} {H H2 : HF} (hA : Agree A H H2) {t : Nat} {ok : Bool} {x : V} {n : Int} (hx : ∀ k ∈ x.keys, A k) : lookupV E H2 t ok x n = (lookupV E H t ok x n).setH H2 := by
 unfold lookupV
 cases x with
 | mp k =>
  simp only [(hA k (hx k (by simp [V.keys]))).1]
  repeat' (split <;> first | rfl | contradiction | exact lookAt_setH | skip)
 | _ => split <;> rfl
section
variable {A : Nat → Prop} {E : TE} {key : Nat} (hkey : ∀ k, key ≤ k → k < key + 16 → A k)
include hkey
omit hkey in
theorem storeD_loc {t k i : Nat} {p : List Step} {v : V} (hk : A k) (hv : ∀ k ∈ v.keys, A k) {H H2 H' : HF} {w : V} (hA : Agree A H H2) {o : Option V} (h : (storeD E H t key k i p v o).to w H') : ∃ H2', (storeD E H2 t key k i p v o).to w H2' ∧ Patch A H' H2 H2' := by
 unfold storeD at h ⊢
 split at h
 ·split at h
  ·split at h
   ·split at h
    ·cases v with
     | dsl k' q' i' m =>
      simp only at h ⊢
      split at h
      ·rcases h with ⟨c, rfl, rfl⟩ | ⟨_, h⟩
       ·exact ⟨_, .inl ⟨c, rfl, rfl⟩, hA.patch.setVar hk _⟩
       ·cases h
      ·cases h
     | row j =>
      have hj : A j := hv j (by simp [V.keys])
      simp only [(hA j hj).2] at h ⊢
      split at h
      ·split at h
       ·split at h
        ·split at h
         ·rcases h with ⟨c, rfl, rfl⟩ | ⟨_, h⟩
          ·exact ⟨_, .inl ⟨c, rfl, rfl⟩, (hA.patch.delRow hj).setVar hk _⟩
          ·cases h
         ·cases h
        ·cases h
       ·cases h
      ·cases h
     | _ => cases h
    ·cases h
   ·cases h
  ·cases h
 ·cases h
theorem store_loc {t : Nat} {v p : V} (hv : ∀ k ∈ v.keys, A k) (hp : ∀ k ∈ p.keys, A k) : Loc A (fun H => storeV E H t key v p) := by
 intro H H2 w H' hA h
 cases p with
 | pvar k pth =>
  have hk : A k := hp k (by simp [V.keys])
  simp only [storeV, pv_eq (hA k hk).1] at h ⊢
  split at h
  ·split at h
   ·split at h
    ·split at h
     ·split at h
      ·obtain ⟨rfl, rfl⟩ := h
       exact ⟨_, ⟨rfl, rfl⟩, hA.patch.setVar hk _⟩
      ·cases h
     ·cases h
    ·cases h
   ·cases h
  ·cases h
 | prow k i pth =>
  have hk : A k := hp k (by simp [V.keys])
  have hd := fun u => deepen_agree hA (u := u) hv
  simp only [storeV, (hA k hk).2, (hA k hk).1, hd] at h ⊢
  split at h
  ·split at h
   ·split at h
    ·unfold nestV at h ⊢
     cases v with
     | row k2 =>
      simp only [(hA k2 (hv k2 (by simp [V.keys]))).2] at h ⊢
      split at h
      ·split at h
       ·split at h
        ·split at h
         ·split at h
          ·split at h
           ·split at h
            ·obtain ⟨rfl, rfl⟩ := h
             exact ⟨_, ⟨rfl, rfl⟩, (hA.patch.delRow hk).setVar hk _⟩
            ·cases h
           ·cases h
          ·cases h
         ·cases h
        ·cases h
       ·cases h
      ·cases h
     | _ => cases h
    split at h
    ·split at h
     ·split at h
      ·split at h
       ·split at h
        ·split at h
         ·cases h
         ·obtain ⟨rfl, rfl⟩ := h
          exact ⟨_, ⟨rfl, rfl⟩, (hA.patch.freeze fun j hj => hv j (rows_keys hj)).setRow hk _⟩
        ·cases h
       ·cases h
      ·cases h
     ·cases h
    ·cases h
   ·cases h
  ·exact storeD_loc hk hv hA h
 | _ => simp only [storeV] at h; cases h
theorem update_loc {t : Nat} {x w : V} {n : Int} (hx : ∀ k ∈ x.keys, A k) (hw : ∀ k ∈ w.keys, A k) : Loc A (fun H => updateV E H t x n w) := by
 intro H H2 v H' hA h
 have hd := fun u => deepen_agree hA (u := u) hw
 unfold updateV at h ⊢
 split at h
 case h_2 => cases h
 split at h
 case h_2 => cases h
 rename_i k
 have hk : A k := hx k (by simp [V.keys])
 simp only [(hA k hk).1, hd] at h ⊢
 split at h
 case h_2 => cases h
 split at h
 case h_2 => cases h
 split at h
 case h_2 => cases h
 split at h
 case h_2 => cases h
 rcases h with ⟨c, rfl, rfl⟩ | ⟨_, h⟩
 ·exact ⟨_, .inl ⟨c, rfl, rfl⟩, hA.patch.setVar hk _⟩
 ·cases h
theorem appendZ_loc {u : U} {bytes t' : Nat} {x y : V} : Loc A (fun H => appendZ E H key u bytes t' x y) := by
 intro H H2 w H' hA h
 have hk : A key := hkey key (Nat.le_refl _) (by omega)
 simp only [appendZ] at h ⊢
 split at h
 ·split at h
  ·split at h
   ·rcases h with ⟨c, h⟩ | ⟨_, h⟩
    ·rcases h with ⟨c2, rfl, rfl⟩ | ⟨_, h⟩
     ·exact ⟨_, .inl ⟨c, .inl ⟨c2, rfl, rfl⟩⟩, hA.patch.setRow hk _⟩
     ·cases h
    ·cases h
   ·cases h
  ·cases h
 ·cases h
theorem append_loc {u : U} {bytes : Nat} {x y : V} (hx : ∀ k ∈ x.keys, A k) (hy : ∀ k ∈ y.keys, A k) : Loc A (fun H => appendV H key u bytes x y) := by
 intro H H2 w H' hA h
 have hk : A key := hkey key (Nat.le_refl _) (by omega)
 have hd := deepen_agree hA (u := .sl u) hy
 simp only [appendV, hd] at h ⊢
 split at h
 ·cases h
 ·rename_i ys hys
  cases x with
  | nilsl =>
   simp only at h ⊢
   rcases h with ⟨c, rfl, rfl⟩ | ⟨_, h⟩
   ·exact ⟨_, .inl ⟨c, rfl, rfl⟩, hA.patch.setRow hk _⟩
   ·cases h
  | dfull u' xs =>
   simp only at h ⊢
   split at h
   ·rename_i zs hz
    rcases h with ⟨c, h⟩ | ⟨_, h⟩
    ·rcases h with ⟨c2, rfl, rfl⟩ | ⟨_, h⟩
     ·exact ⟨_, .inl ⟨c, .inl ⟨c2, rfl, rfl⟩⟩, hA.patch.setRow hk _⟩
     ·cases h
    ·cases h
   ·cases h
  | row k =>
   have hk' : A k := hx k (by simp [V.keys])
   simp only [(hA k hk').2] at h ⊢
   split at h
   ·split at h
    ·split at h
     ·rename_i r hr hw zs hz
      rcases h with ⟨c, rfl, rfl⟩ | ⟨_, h⟩
      ·exact ⟨_, .inl ⟨c, rfl, rfl⟩, (hA.patch.delRow hk').setRow hk _⟩
      ·cases h
     ·cases h
    ·cases h
   ·cases h
  | rsub k o n =>
   have hk' : A k := hx k (by simp [V.keys])
   simp only [(hA k hk').2] at h ⊢
   split at h
   ·split at h
    ·split at h
     ·rename_i r hr hw zs hz
      rcases h with ⟨c, rfl, rfl⟩ | ⟨_, h⟩
      ·exact ⟨_, .inl ⟨c, rfl, rfl⟩, (hA.patch.delRow hk').setRow hk _⟩
      ·cases h
     ·cases h
    ·cases h
   ·cases h
  | dsl k q i n =>
   have hk' : A k := hx k (by simp [V.keys])
   simp only [(hA k hk').1] at h ⊢
   unfold appendD at h ⊢
   split at h
   ·split at h
    ·split at h
     ·rcases h with ⟨c, h⟩ | ⟨_, h⟩
      ·rcases h with ⟨c2, rfl, rfl⟩ | ⟨_, h⟩
       ·exact ⟨_, .inl ⟨c, .inl ⟨c2, rfl, rfl⟩⟩, (hA.patch.setVar hk' _).setRow hk _⟩
       ·cases h
      ·cases h
     ·cases h
    ·cases h
   ·cases h
  | _ => simp only at h; cases h
theorem clear_loc {u : U} {x : V} (hx : ∀ k ∈ x.keys, A k) : Loc A (fun H => clearV H u x) := by
 intro H H2 w H' hA h
 cases x with
 | nilsl =>
  obtain ⟨rfl, rfl⟩ := h
  exact ⟨_, ⟨rfl, rfl⟩, hA.patch⟩
 | row k =>
  have hk' : A k := hx k (by simp [V.keys])
  simp only [clearV, (hA k hk').2] at h ⊢
  split at h
  ·split at h
   ·obtain ⟨rfl, rfl⟩ := h
    exact ⟨_, ⟨rfl, rfl⟩, hA.patch.setRow hk' _⟩
   ·cases h
  ·cases h
 | rsub k o n =>
  have hk' : A k := hx k (by simp [V.keys])
  simp only [clearV, (hA k hk').2] at h ⊢
  split at h
  ·split at h
   ·obtain ⟨rfl, rfl⟩ := h
    exact ⟨_, ⟨rfl, rfl⟩, hA.patch.setRow hk' _⟩
   ·cases h
  ·cases h
 | _ => simp only [clearV] at h; cases h
theorem copy_loc {u : U} {x y : V} (hx : ∀ k ∈ x.keys, A k) (hy : ∀ k ∈ y.keys, A k) : Loc A (fun H => copyV H u x y) := by
 intro H H2 w H' hA h
 have hd := deepen_agree hA (u := .sl u) hy
 simp only [copyV, hd] at h ⊢
 split at h
 ·cases h
 ·rename_i ys hys
  cases x with
  | nilsl =>
   obtain ⟨rfl, rfl⟩ := h
   exact ⟨_, ⟨rfl, rfl⟩, hA.patch⟩
  | row k =>
   have hk' : A k := hx k (by simp [V.keys])
   simp only [(hA k hk').2] at h ⊢
   split at h
   ·split at h
    ·split at h
     ·obtain ⟨rfl, rfl⟩ := h
      exact ⟨_, ⟨rfl, rfl⟩, hA.patch.setRow hk' _⟩
     ·cases h
    ·cases h
   ·cases h
  | rsub k o n =>
   have hk' : A k := hx k (by simp [V.keys])
   simp only [(hA k hk').2] at h ⊢
   split at h
   ·split at h
    ·split at h
     ·obtain ⟨rfl, rfl⟩ := h
      exact ⟨_, ⟨rfl, rfl⟩, hA.patch.setRow hk' _⟩
     ·cases h
    ·cases h
   ·cases h
  | _ => simp only at h; cases h
theorem sum_loc {sm : Sum} {args : V} {tup : Bool} (ha : ∀ k ∈ args.keys, A k) : Loc A (fun H => asum sm key H args tup) := by
 intro H H2 w H' hA h
 have hd := deepen_agree hA (u := sm.a) ha
 simp only [asum, hd] at h ⊢
 split at h
 ·cases h
 ·rename_i x hx
  split at h
  ·rename_i h16
   have h16' : sm.r.owns ≤ 16 := by simpa [Nat.ble_eq] using h16
   obtain ⟨y, hy, h⟩ := h
   have hp : Patch A (bif sm.r.anyD then H.freeze args.rows else H) H2 (bif sm.r.anyD then H2.freeze args.rows else H2) := by
    cases sm.r.anyD with
    | true => exact hA.patch.freeze fun k hk => ha k (rows_keys hk)
    | false => exact hA.patch
   obtain ⟨a1, a2, a3, a4⟩ := recv_patch (r := sm.r) (x := y) (k := key) hp (fun j h1 h2 => hkey j h1 (by omega))
   obtain ⟨rfl, rfl⟩ := h
   exact ⟨_, ⟨y, hy, by rw [a1], rfl⟩, a4⟩
  ·cases h
end
end Go.Proofs.YtdokfjkihjkcmaaGreatDoor.Den

/- Regions whose operations may run in other orders: what comes of text order comes of each. -/
namespace Go.Proofs.YtdokfjkihjkcmaaGreatDoor.Den
open Go Go.RowKit
set_option linter.unusedVariables false
set_option linter.unusedSectionVars false
theorem keysOf_mem {T : TF} : ∀ {l : List Operand} {x : Operand} {k : Nat}, x ∈ l → k ∈ (evO T x).keys → k ∈ keysOf T l
 | a :: l, x, k, hx, hk => by
  simp only [keysOf, List.mem_append]
  rcases List.mem_cons.1 hx with rfl | hx
  ·exact .inl hk
  ·exact .inr (keysOf_mem hx hk)
theorem keysOf_congr {T T2 : TF} : ∀ {l : List Operand}, (∀ x ∈ l, evO T2 x = evO T x) → keysOf T2 l = keysOf T l
 | [], _ => rfl
 | a :: l, h => by simp only [keysOf, h a (by simp), keysOf_congr (l := l) (fun x hx => h x (by simp [hx]))]
theorem listV_congr {T T2 : TF} : ∀ {l : List Operand}, (∀ x ∈ l, evO T2 x = evO T x) → aop.listV T2 l = aop.listV T l
 | [], _ => rfl
 | a :: l, h => by simp only [aop.listV, h a (by simp), listV_congr (l := l) (fun x hx => h x (by simp [hx]))]
theorem listV_keys {T : TF} : ∀ {l : List Operand} {k : Nat}, k ∈ (aop.listV T l).keys → k ∈ keysOf T l
 | [], k, h => by simp [aop.listV, V.keys] at h
 | a :: l, k, h => by
  simp only [aop.listV, V.keys, List.mem_append] at h
  simp only [keysOf, List.mem_append]
  exact h.imp id listV_keys
theorem fillV_congr {H : HF} {T T2 : TF} {u : U} : ∀ {l : List (Nat × Operand)} {xs : List u.T}, (∀ x ∈ l.map (·.2), evO T2 x = evO T x) → fillV H T2 u l xs = fillV H T u l xs
 | [], _, _ => rfl
 | (i, a) :: l, xs, h => by
  simp only [fillV, h a (by simp)]
  split
  ·split
   ·exact fillV_congr (fun x hx => h x (by simp only [List.map_cons, List.mem_cons]; exact .inr hx))
   ·rfl
  ·rfl
theorem rowsOfs_congr {T T2 : TF} : ∀ {l : List (Nat × Operand)}, (∀ x ∈ l.map (·.2), evO T2 x = evO T x) → rowsOfs T2 l = rowsOfs T l
 | [], _ => rfl
 | (i, a) :: l, h => by simp only [rowsOfs, h a (by simp), rowsOfs_congr (l := l) (fun x hx => h x (by simp only [List.map_cons, List.mem_cons]; exact .inr hx))]
theorem rowsOfs_keys {T : TF} : ∀ {l : List (Nat × Operand)} {k : Nat}, k ∈ rowsOfs T l → k ∈ keysOf T (l.map (·.2))
 | [], k, h => by simp [rowsOfs] at h
 | (i, a) :: l, k, h => by
  simp only [rowsOfs, List.mem_append] at h
  simp only [List.map_cons, keysOf, List.mem_append]
  exact h.imp rows_keys rowsOfs_keys
theorem fillV_agree {D : Nat → Prop} {H H2 : HF} (hA : Agree D H H2) {T : TF} {u : U} : ∀ {l : List (Nat × Operand)} {xs : List u.T}, (∀ k ∈ keysOf T (l.map (·.2)), D k) → fillV H2 T u l xs = fillV H T u l xs
 | [], _, _ => rfl
 | (i, a) :: l, xs, h => by
  have e := deepen_agree hA (u := u) (v := evO T a) (fun k hk => h k (by simp only [List.map_cons, keysOf, List.mem_append]; exact .inl hk))
  simp only [fillV, e]
  split
  ·split
   ·exact fillV_agree hA (fun k hk => h k (by simp only [List.map_cons, keysOf, List.mem_append]; exact .inr hk))
   ·rfl
  ·rfl
theorem buildFs_congr {T T2 : TF} : ∀ {l : List (Nat × Operand)} {v : V}, (∀ x ∈ l.map (·.2), evO T2 x = evO T x) → buildFs T2 l v = buildFs T l v
 | [], _, _ => rfl
 | (i, a) :: l, v, h => by
  simp only [buildFs, h a (by simp)]
  split
  ·split
   ·split
    ·exact buildFs_congr (fun x hx => h x (by simp only [List.map_cons, List.mem_cons]; exact .inr hx))
    ·rfl
   ·rfl
  ·rfl
theorem optInt_congr {T T2 : TF} {o : Option Operand} {d : Int} (h : ∀ x ∈ o.toArray.toList, evO T2 x = evO T x) : optInt T2 o d = optInt T o d := by
 cases o with
 | none => rfl
 | some x => simp only [optInt, h x (by simp)]
section
variable {E : TE} {S : FuncId → Option Sum}
theorem opRes_congr {key : Nat} {T T2 : TF} {H : HF} {op : Op} (h : ∀ x ∈ op.operands.toList, evO T2 x = evO T x) : opRes E S key T2 H op = opRes E S key T H op := by
 cases op with
 | call c =>
  have h2 : ∀ x ∈ c.args.toList, evO T2 x = evO T x := fun x hx => h x (by simp [Op.operands, Call.operands]; exact .inr (by simpa using hx))
  simp only [opRes]
  split
  ·unfold abuiltin
   split
   ·rename_i x t hx ht hc
    simp only [h2 x (by rw [hx]; simp)]
   ·rename_i x y t t' hx ht hc
    simp only [h2 x (by rw [hx]; simp), h2 y (by rw [hx]; simp)]
   ·rename_i x t hx ht hc
    simp only [h2 x (by rw [hx]; simp)]
   ·rename_i x y t t' hx ht hc
    simp only [h2 x (by rw [hx]; simp), h2 y (by rw [hx]; simp)]
   ·rename_i x t hx ht hc
    simp only [h2 x (by rw [hx]; simp)]
   ·rename_i x y t t' hx ht hc
    simp only [h2 x (by rw [hx]; simp), h2 y (by rw [hx]; simp)]
   ·rename_i x y t t' hx ht hc
    simp only [h2 x (by rw [hx]; simp), h2 y (by rw [hx]; simp)]
   ·rfl
  ·rename_i x hx
   rw [h x (by simp [Op.operands, Call.operands, hx]), listV_congr h2]
  ·rfl
 | move x => simp only [opRes, aopS, aop, h x (by simp [Op.operands])]
 | assign x => simp only [opRes, aopS, aop, h x (by simp [Op.operands])]
 | pick c x y => simp only [opRes, aopS, aop, h c (by simp [Op.operands]), h x (by simp [Op.operands]), h y (by simp [Op.operands])]
 | box t x => simp only [opRes, aopS, aop, h x (by simp [Op.operands])]
 | build t ps =>
  have h2 : ∀ x ∈ ps.toList.map (·.2), evO T2 x = evO T x := fun x hx => h x (by simpa [Op.operands] using hx)
  simp only [opRes, aopS, aop, buildFs_congr h2, fillV_congr h2, rowsOfs_congr h2]
 | buildSlice t n ps =>
  have h2 : ∀ x ∈ ps.toList.map (·.2), evO T2 x = evO T x := fun x hx => h x (by simpa [Op.operands] using hx)
  simp only [opRes, aopS, aop, fillV_congr h2, rowsOfs_congr h2]
 | load t x => simp only [opRes, aopS, aop, h x (by simp [Op.operands])]
 | store t p x => simp only [opRes, aopS, aop, h x (by simp [Op.operands]), h p (by simp [Op.operands])]
 | nilCheck x => simp only [opRes, aopS, aop, h x (by simp [Op.operands])]
 | binOp op t x y c => simp only [opRes, aopS, aop, h x (by simp [Op.operands]), h y (by simp [Op.operands])]
 | unOp op t x => simp only [opRes, aopS, aop, h x (by simp [Op.operands])]
 | convert a b x => simp only [opRes, aopS, aop, h x (by simp [Op.operands])]
 | makeInterface t x => simp only [opRes, aopS, aop, h x (by simp [Op.operands])]
 | typeAssert x xt t ok => simp only [opRes, aopS, aop, h x (by simp [Op.operands])]
 | makeFunc f p q =>
  have h1 : ∀ x ∈ p.toList, evO T2 x = evO T x := fun x hx => h x (by simp only [Op.operands, Array.toList_append, List.mem_append]; exact .inl hx)
  have h2 : ∀ x ∈ q.toList, evO T2 x = evO T x := fun x hx => h x (by simp only [Op.operands, Array.toList_append, List.mem_append]; exact .inr hx)
  cases f with
  | func f => simp only [opRes, aopS, aop, listV_congr h1, listV_congr h2]
  | _ => rfl
 | makeSlice t l c => simp only [opRes, aopS, aop, h l (by simp [Op.operands]), h c (by simp [Op.operands])]
 | slice t x lo hi mx =>
  have hx := h x (by simp [Op.operands])
  have h1 := fun d => optInt_congr (T := T) (T2 := T2) (o := lo) (d := d) (fun x hx => h x (by simp [Op.operands] at hx ⊢; exact .inr (.inl hx)))
  have h2 := fun d => optInt_congr (T := T) (T2 := T2) (o := hi) (d := d) (fun x hx => h x (by simp [Op.operands] at hx ⊢; exact .inr (.inr (.inl hx))))
  simp only [opRes, aopS, aop, hx, h1, h2]
  cases mx with
  | none => rfl
  | some m => simp only [h m (by simp [Op.operands])]
 | fieldAddr t x f => simp only [opRes, aopS, aop, h x (by simp [Op.operands])]
 | indexAddr t x i => simp only [opRes, aopS, aop, h x (by simp [Op.operands]), h i (by simp [Op.operands])]
 | index t x i => simp only [opRes, aopS, aop, h x (by simp [Op.operands]), h i (by simp [Op.operands])]
 | field t x f => simp only [opRes, aopS, aop, h x (by simp [Op.operands])]
 | extract x i => simp only [opRes, aopS, aop, h x (by simp [Op.operands])]
 | makeMap t r =>
  have h1 := fun d => optInt_congr (T := T) (T2 := T2) (o := r) (d := d) (fun x hx => h x (by simpa [Op.operands] using hx))
  simp only [opRes, aopS, aop, h1]
 | lookup t x i ok => simp only [opRes, aopS, aop, h x (by simp [Op.operands]), h i (by simp [Op.operands])]
 | mapUpdate t m k x => simp only [opRes, aopS, aop, h m (by simp [Op.operands]), h k (by simp [Op.operands]), h x (by simp [Op.operands])]
 | insert t m k x => simp only [opRes, aopS, aop, h m (by simp [Op.operands]), h k (by simp [Op.operands]), h x (by simp [Op.operands])]
 | _ => rfl
def Own (T : TF) (op : Op) (key : Nat) (k : Nat) : Prop := k ∈ opKeys T op ∨ (key ≤ k ∧ k < key + 16)
theorem opKeys_congr {T T2 : TF} {op : Op} (h : ∀ x ∈ op.operands.toList, evO T2 x = evO T x) : opKeys T2 op = opKeys T op := by
 unfold opKeys
 rw [keysOf_congr h]
theorem zrow_loc {A : Nat → Prop} {key : Nat} (hk : A key) {u : U} {n : Nat} : Loc A (fun H => zrow H key u n) := by
 intro H H2 v H' hA h
 unfold zrow at h ⊢
 simp only at h ⊢
 split at h
 ·split at h
  ·split at h
   ·obtain ⟨rfl, rfl⟩ := h
    exact ⟨_, ⟨rfl, rfl⟩, hA.patch.setVar hk _⟩
   ·cases h
  ·cases h
 ·obtain ⟨rfl, rfl⟩ := h
  exact ⟨_, ⟨rfl, rfl⟩, hA.patch.setRow hk _⟩
theorem opRes_loc {key : Nat} {T : TF} {op : Op} : Loc (Own T op key) (fun H => opRes E S key T H op) := by
 have hkey : ∀ k, key ≤ k → k < key + 16 → Own T op key k := fun k h1 h2 => .inr ⟨h1, h2⟩
 have own : memOf op = true → ∀ x ∈ op.operands.toList, ∀ k ∈ (evO T x).keys, Own T op key k := fun hm x hx k hk => .inl (by unfold opKeys; rw [hm]; exact keysOf_mem hx hk)
 have hk0 : Own T op key key := hkey key (Nat.le_refl _) (by omega)
 cases op with
 | call c =>
  have h2 : ∀ x ∈ c.args.toList, ∀ k ∈ (evO T x).keys, Own T (.call c) key k := fun x hx => own rfl x (by simp [Op.operands, Call.operands]; exact .inr (by simpa using hx))
  have h3 : ∀ k ∈ (aop.listV T c.args.toList).keys, Own T (.call c) key k := fun k hk => by
   have := listV_keys hk
   refine .inl ?_
   show k ∈ keysOf T (Op.call c).operands.toList
   have e : ∃ l, (Op.call c).operands.toList = l ++ c.args.toList := ⟨_, by simp only [Op.operands, Call.operands, Array.toList_append]; rfl⟩
   obtain ⟨l, e⟩ := e
   rw [e]
   have : ∀ {l m : List Operand}, k ∈ keysOf T m → k ∈ keysOf T (l ++ m) := by
    intro l m hm
    induction l with
    | nil => exact hm
    | cons a l ih => simp only [List.cons_append, keysOf, List.mem_append]; exact .inr ih
   exact this (listV_keys hk)
  intro H H2 v H' hA h
  simp only [opRes] at h ⊢
  split at h
  ·rename_i b hb
   unfold abuiltin at h ⊢
   split at h
   ·rename_i x t hx ht
    split at h
    ·rename_i u hu
     simp only [lenV_agree hA (h2 x (by rw [hx]; simp))]
     split at h
     ·obtain ⟨rfl, rfl⟩ := h
      exact ⟨_, ⟨rfl, rfl⟩, hA.patch⟩
     ·cases h
    ·cases h
   ·rename_i x y t t' hx ht
    split at h
    ·rename_i u hu
     split at h
     ·rename_i hq
      exact append_loc hkey (h2 x (by rw [hx]; simp)) (h2 y (by rw [hx]; simp)) H H2 v H' hA h
     ·split at h
      ·exact appendZ_loc hkey H H2 v H' hA h
      ·cases h
    ·cases h
   ·rename_i x t hx ht
    split at h
    ·exact clear_loc hkey (h2 x (by rw [hx]; simp)) H H2 v H' hA h
    ·cases h
   ·rename_i x y t t' hx ht
    split at h
    ·exact copy_loc hkey (h2 x (by rw [hx]; simp)) (h2 y (by rw [hx]; simp)) H H2 v H' hA h
    ·cases h
   ·split at h
    ·split at h
     ·obtain ⟨rfl, rfl⟩ := h
      exact ⟨_, ⟨rfl, rfl⟩, hA.patch⟩
     ·cases h
    ·cases h
   ·split at h
    ·split at h
     ·obtain ⟨rfl, rfl⟩ := h
      exact ⟨_, ⟨rfl, rfl⟩, hA.patch⟩
     ·cases h
    ·cases h
   ·split at h
    ·split at h
     ·obtain ⟨rfl, rfl⟩ := h
      exact ⟨_, ⟨rfl, rfl⟩, hA.patch⟩
     ·cases h
    ·cases h
   ·cases h
  ·split at h
   ·split at h
    ·split at h
     ·exact sum_loc hkey h3 H H2 v H' hA h
     ·cases h
    ·cases h
   ·cases h
  ·cases h
 | move x => exact loc_setH fun H H2 hA => rfl
 | assign x => exact loc_setH fun H H2 hA => rfl
 | pick c x y => exact loc_setH fun H H2 hA => by simp only [opRes, aopS, aop]; split <;> rfl
 | alloc t =>
  intro H H2 v H' hA h
  simp only [opRes, aopS, aop] at h ⊢
  split at h
  ·obtain ⟨rfl, rfl⟩ := h
   exact ⟨_, ⟨rfl, rfl⟩, hA.patch.setVar hk0 _⟩
  ·cases h
 | box t x =>
  intro H H2 v H' hA h
  simp only [opRes, aopS, aop] at h ⊢
  split at h
  ·obtain ⟨rfl, rfl⟩ := h
   exact ⟨_, ⟨rfl, rfl⟩, hA.patch.setVar hk0 _⟩
  ·cases h
 | build t ps =>
  have ek : ∀ k ∈ keysOf T (ps.toList.map (·.2)), Own T (.build t ps) key k := fun k hk => .inl (by show k ∈ keysOf T (Op.build t ps).operands.toList; simpa [Op.operands] using hk)
  exact loc_setH fun H H2 hA => by
   have e := fun u xs => fillV_agree hA (T := T) (u := u) (l := ps.toList) (xs := xs) ek
   simp only [opRes, aopS, aop, e]
   repeat' (split <;> first | rfl | contradiction | skip)
 | buildSlice t n ps =>
  have ek : ∀ k ∈ keysOf T (ps.toList.map (·.2)), Own T (.buildSlice t n ps) key k := fun k hk => .inl (by show k ∈ keysOf T (Op.buildSlice t n ps).operands.toList; simpa [Op.operands] using hk)
  intro H H2 v H' hA h
  have e := fun u xs => fillV_agree hA (T := T) (u := u) (l := ps.toList) (xs := xs) ek
  simp only [opRes, aopS, aop, e] at h ⊢
  split at h
  ·split at h
   ·split at h
    ·split at h
     ·obtain ⟨rfl, rfl⟩ := h
      exact ⟨_, ⟨rfl, rfl⟩, ((hA.patch.freeze fun k hk => ek k (rowsOfs_keys hk)).setRow hk0 _).freeze (fun k hk => by simp at hk; subst hk; exact hk0)⟩
     ·obtain ⟨rfl, rfl⟩ := h
      exact ⟨_, ⟨rfl, rfl⟩, (hA.patch.freeze fun k hk => ek k (rowsOfs_keys hk)).setRow hk0 _⟩
    ·cases h
   ·cases h
  ·cases h
 | load t x => exact loc_setH fun H H2 hA => loadV_agree hA (own rfl x (by simp [Op.operands]))
 | store t p x => exact store_loc hkey (own rfl x (by simp [Op.operands])) (own rfl p (by simp [Op.operands]))
 | nilCheck x =>
  have hx := own rfl x (by simp [Op.operands])
  exact loc_setH fun H H2 hA => by
   simp only [opRes, aopS, aop]
   cases he : evO T x with
   | pvar k p =>
    have hk := pv_eq (hA k (hx k (by rw [he]; simp [V.keys]))).1
    simp only [hk]
    split <;> rfl
   | prow k i p =>
    have hk := (hA k (hx k (by rw [he]; simp [V.keys]))).2
    simp only [hk]
    split <;> rfl
   | fn f a b =>
    simp only
    cases (V.fn f a b).isY <;> rfl
   | _ => rfl
 | binOp op t x y c => exact loc_setH fun H H2 hA => binV_agree hA (own rfl x (by simp [Op.operands])) (own rfl y (by simp [Op.operands]))
 | unOp op t x => exact loc_setH fun H H2 hA => unV_agree hA
 | convert a b x =>
  exact loc_setH fun H H2 hA => by
   have e := deepen_agree hA (u := .sl (.int .u8)) (own rfl x (by simp [Op.operands]))
   simp only [opRes, aopS, aop]
   split
   ·repeat' (split <;> first | rfl | contradiction | skip)
   ·split
    ·rw [e]; cases deepen H (.sl (.int .u8)) (evO T x) <;> rfl
    ·rfl
 | makeInterface t x =>
  exact loc_setH fun H H2 hA => by
   simp only [opRes, aopS, aop]
   split <;> rfl
 | typeAssert x xt t ok =>
  exact loc_setH fun H H2 hA => by
   simp only [opRes, aopS, aop]
   repeat' (split <;> first | rfl | contradiction | skip)
 | makeFunc f p q =>
  cases f with
  | func f =>
   exact loc_setH fun H H2 hA => by
    simp only [opRes, aopS, aop]
    split <;> rfl
  | _ => exact loc_setH fun H H2 hA => rfl
 | makeSlice t l c =>
  intro H H2 v H' hA h
  simp only [opRes, aopS, aop] at h ⊢
  split at h
  ·split at h
   ·split at h
    ·split at h
     ·rcases h with ⟨c1, h⟩ | ⟨_, h⟩
      ·rcases h with ⟨c2, h⟩ | ⟨_, h⟩
       ·rcases h with ⟨c3, h⟩ | ⟨_, h⟩
        ·obtain ⟨H2', g1, g2⟩ := zrow_loc hk0 H H2 v H' hA h
         exact ⟨_, .inl ⟨c1, .inl ⟨c2, .inl ⟨c3, g1⟩⟩⟩, g2⟩
        ·cases h
       ·cases h
      ·cases h
     ·cases h
    ·cases h
   ·cases h
  ·cases h
 | slice t x lo hi mx =>
  have hx := own rfl x (by simp [Op.operands])
  cases he : E.elem t with
  | some u0 =>
   exact loc_setH fun H H2 hA => by
    have e := fun full l h' => cutV_agree hA (full := full) (l := l) (h' := h') hx
    simp only [opRes, aopS, aop, he, lenV_agree hA hx, fitsZ_agree hA hx, e]
    repeat' (split <;> first | rfl | contradiction | skip)
  | none =>
   intro H H2 v H' hA h
   simp only [opRes, aopS, he] at h ⊢
   unfold sliceArr at h ⊢
   split at h
   case h_2 => cases h
   split at h
   case h_2 => cases h
   rename_i n u ha
   split at h
   case h_2 => cases h
   rename_i k hk
   have hk' : Own T (.slice t x none none none) key k := hx k (by rw [hk]; simp [V.keys])
   simp only [pv_eq (hA k hk').1]
   split at h
   case h_2 => cases h
   rename_i m u' xs hc
   split at h
   case h_2 => cases h
   rename_i hq
   obtain ⟨rfl, rfl⟩ := h
   try simp only [hc, hq]
   exact ⟨_, ⟨rfl, rfl⟩, hA.patch.delVar hk'⟩
 | fieldAddr t x f => exact loc_setH fun H H2 hA => fieldV_agree hA (own rfl x (by simp [Op.operands]))
 | indexAddr t x i =>
  exact loc_setH fun H H2 hA => by
   simp only [opRes, aopS, aop]
   split
   ·exact indexV_agree hA (own rfl x (by simp [Op.operands]))
   ·rfl
 | field t x f =>
  exact loc_setH fun H H2 hA => by
   simp only [opRes, aopS, aop]
   repeat' (split <;> first | rfl | contradiction | skip)
 | index t x i =>
  exact loc_setH fun H H2 hA => by
   simp only [opRes, aopS, aop]
   repeat' (split <;> first | rfl | contradiction | exact selA_setH | skip)
 | extract x i =>
  exact loc_setH fun H H2 hA => by
   simp only [opRes, aopS, aop]
   repeat' (split <;> first | rfl | contradiction | skip)
 | makeMap t r =>
  intro H H2 v H' hA h
  simp only [opRes, aopS, aop] at h ⊢
  split at h
  case h_2 => cases h
  split at h
  case h_2 => cases h
  obtain ⟨rfl, rfl⟩ := h
  exact ⟨_, ⟨rfl, rfl⟩, hA.patch.setVar hk0 _⟩
 | lookup t x i ok =>
  exact loc_setH fun H H2 hA => by
   simp only [opRes, aopS, aop]
   split
   ·exact lookup_agree hA (own rfl x (by simp [Op.operands]))
   ·rfl
 | mapUpdate t m k x =>
  intro H H2 v H' hA h
  simp only [opRes, aopS, aop] at h ⊢
  split at h
  case h_2 => cases h
  exact update_loc hkey (own rfl m (by simp [Op.operands])) (own rfl x (by simp [Op.operands])) H H2 v H' hA h
 | insert t m k x =>
  intro H H2 v H' hA h
  simp only [opRes, aopS, aop] at h ⊢
  split at h
  case h_2 => cases h
  exact update_loc hkey (own rfl m (by simp [Op.operands])) (own rfl x (by simp [Op.operands])) H H2 v H' hA h
 | _ => intro H H2 v H' hA h; cases h
end
end Go.Proofs.YtdokfjkihjkcmaaGreatDoor.Den

/- Regions that draw their order: whatever order is drawn comes to what text order comes to. -/
namespace Go.Proofs.YtdokfjkihjkcmaaGreatDoor.Den
open Go Go.RowKit
set_option linter.unusedVariables false
set_option linter.unusedSectionVars false
theorem Res.run_of {β : Type} {K : V → HF → Option β} : ∀ {x : Res} {v : V} {H : HF}, x.to v H → x.run K = K v H
 | .fail, _, _, h => h.elim
 | .ok _ _, _, _, h => by obtain ⟨rfl, rfl⟩ := h; rfl
 | .ite c a b, _, _, h => by
  rcases h with ⟨rfl, h⟩ | ⟨rfl, h⟩
  ·exact Res.run_of (x := a) h
  ·exact Res.run_of (x := b) h
 | .opt r o k, _, _, h => by
  obtain ⟨x, rfl, h⟩ := h
  exact Res.run_of (x := k x) h
section
variable {E : TE} {S : FuncId → Option Sum}
theorem opRes_still {key : Nat} {T : TF} {H H' : HF} {v : V} {op : Op} (hw : wrOp E op = false) (h : (opRes E S key T H op).to v H') : H' = H := by
 have hA : Agree (fun _ => True) H H := fun _ _ => ⟨rfl, rfl⟩
 refine keep_setH (f := fun H => opRes E S key T H op) ?_ h
 cases op with
 | load t x => exact loadV_agree hA (fun _ _ => trivial)
 | fieldAddr t x f => exact fieldV_agree hA (fun _ _ => trivial)
 | indexAddr t x i =>
  simp only [opRes, aopS, aop]
  split
  ·exact indexV_agree hA (fun _ _ => trivial)
  ·rfl
 | binOp op t x y c => exact binV_agree hA (fun _ _ => trivial) (fun _ _ => trivial)
 | unOp op t x => exact unV_agree hA
 | convert a b x =>
  simp only [opRes, aopS, aop]
  split
  ·repeat' (split <;> first | rfl | contradiction | skip)
  ·split
   ·cases deepen H (.sl (.int .u8)) (evO T x) <;> rfl
   ·rfl
 | slice t x lo hi mx =>
  have e := fun full l h' => cutV_agree hA (full := full) (l := l) (h' := h') (v := evO T x) (fun _ _ => trivial)
  obtain ⟨u0, he⟩ : ∃ u0, E.elem t = some u0 := by
   cases he : E.elem t with
   | some u0 => exact ⟨u0, rfl⟩
   | none => simp [wrOp, he] at hw
  simp only [opRes, aopS, he, aop]
  repeat' (split <;> first | rfl | contradiction | exact e _ _ _ | skip)
  all_goals (simp only [Res.setH]; congr 1; exact e _ _ _)
 | alloc _ => cases hw
 | box _ _ => cases hw
 | buildSlice _ _ _ => cases hw
 | makeSlice _ _ _ => cases hw
 | store _ _ _ => cases hw
 | call c =>
  simp only [wrOp] at hw
  split at hw
  ·rename_i hc
   simp only [opRes, hc]
   unfold abuiltin
   repeat' (split <;> first | rfl | contradiction | skip)
  ·cases hw
 | makeMap _ _ => cases hw
 | mapUpdate _ _ _ _ => cases hw
 | insert _ _ _ _ => cases hw
 | lookup t x i ok =>
  simp only [opRes, aopS, aop]
  split
  ·exact lookup_agree hA (fun _ _ => trivial)
  ·rfl
 | makeFunc f p q =>
  cases f with
  | func f =>
   simp only [opRes, aopS, aop]
   repeat' (split <;> first | rfl | contradiction | skip)
  | _ => rfl
 | _ =>
  simp only [opRes, aopS, aop]
  first
  | rfl
  | (repeat' (split <;> first | rfl | contradiction | exact selA_setH | skip))
theorem putT_ne {nt : Nat} {T : TF} {dst : Option Nat} {v : V} {i : Nat} (h : ∀ d, dst = some d → d ≠ i) : putT nt T dst v i = T i := by
 cases dst with
 | none => rfl
 | some d =>
  have hd : i ≠ d := fun e => h d rfl e.symm
  simp only [putT]
  cases Nat.blt d nt
  ·rfl
  ·show upd T d v i = T i
   unfold upd
   rw [nbeq hd]
   rfl
theorem evO_put {nt : Nat} {T : TF} {dst : Option Nat} {v : V} {x : Operand} (h : ∀ d, dst = some d → x ≠ .tmp d) : evO (putT nt T dst v) x = evO T x := by
 cases x with
 | tmp t => exact putT_ne fun d hd e => h d hd (by rw [e])
 | _ => rfl
theorem putT_comm {nt : Nat} {T : TF} {x y : Option Nat} {v u : V} (h : ∀ d, x = some d → y ≠ some d) : putT nt (putT nt T x v) y u = putT nt (putT nt T y u) x v := by
 cases x with
 | none => rfl
 | some d =>
  cases y with
  | none => rfl
  | some e =>
   have hde : d ≠ e := fun q => h d rfl (by rw [q])
   simp only [putT]
   cases h1 : Nat.blt d nt <;> cases h2 : Nat.blt e nt <;> simp only [cond_true, cond_false]
   funext i
   unfold upd
   by_cases a : i = e
   ·subst a
    have : Nat.beq i d = false := nbeq (Ne.symm hde)
    simp [this]
   ·simp [nbeq a]
variable (ops : Array Oper) (nt N0 : Nat)
def Wants (T : TF) (o : Oper) (b : Bool) : Prop := match o.guard with
 | none => b = true
 | some (j, want) => ∃ g, gtmp ops j = some g ∧ ((∃ c, T g = .d .bool c ∧ b = (c == want)) ∨ (T g = .tup .nil ∧ b = false))
inductive Anc : Nat → Nat → Prop
 | one {i j : Nat} {o : Oper} : ops[i]? = some o → j ∈ edgesOf o → Anc j i
 | more {i j k : Nat} {o : Oper} : ops[i]? = some o → j ∈ edgesOf o → Anc k j → Anc k i
def Pin (i : Nat) : Prop := (∀ j, j < i → Anc ops j i) ∧ ∀ q, i < q → q < ops.size → Anc ops i q
variable (E S)
def Did (fp : Nat → List Nat) (i : Nat) (T : TF) (H : HF) (T' : TF) (H' : HF) : Prop :=
 ∃ o b, ops[i]? = some o ∧ opKeys T o.op = fp i ∧ Wants ops T o b ∧
  ((b = true ∧ ∃ v, (opRes E S (N0 + 16 * i) T H o.op).to v H' ∧ T' = putT nt T o.dst v) ∨ (b = false ∧ H' = H ∧ T' = putT nt T o.dst (.tup .nil)))
variable {E S}
variable (E) in
structure Off (fp : Nat → List Nat) (x j : Nat) : Prop where
 ne : x ≠ j
 ex : ∃ ox oj, ops[x]? = some ox ∧ ops[j]? = some oj ∧ looksApart ops ox oj = true ∧
  ((wrOp E ox.op = false ∧ wrOp E oj.op = false) ∨
   ((∀ k ∈ fp x, k ∉ fp j ∧ (k < N0 + 16 * j ∨ N0 + 16 * j + 16 ≤ k)) ∧ (∀ k ∈ fp j, (k < N0 + 16 * x ∨ N0 + 16 * x + 16 ≤ k))))
variable (E) in
def FactA (fp : Nat → List Nat) (i : Nat) : Prop :=
 (∀ o, ops[i]? = some o → ∀ j ∈ edgesOf o, j < i) ∧ ∀ j, j < i → Anc ops j i ∨ Off E ops N0 fp j i
variable (E S) in
def Run {β : Type} (inl : FuncId → V → HF → (V → HF → Option β) → Option β) (r : β) (Q : TF → HF → Prop) : List Nat → (Nat → List Nat) → TF → HF → Prop
 | [], _, T, H => Q T H
 | i :: l, fp, T, H => FactA E ops N0 fp i ∧ ((∃ T' H', Did E S ops nt N0 fp i T H T' H' ∧ Run inl r Q l fp T' H') ∨
  (Pin ops i ∧ ∃ o, ops[i]? = some o ∧ Wants ops T o true ∧ ∃ K1 : TF → HF → Option β, stepK E S inl nt (N0 + 16 * i) o T H K1 = some r ∧ ∀ T1 H1, K1 T1 H1 = some r → ∃ fp', Run inl r Q l fp' T1 H1))
variable {ops nt N0}
theorem wants_put {T : TF} {o : Oper} {b : Bool} {dst : Option Nat} {v : V} (h : ∀ d, dst = some d → d ∉ Oper.looksAt ops o) (hw : Wants ops T o b) : Wants ops (putT nt T dst v) o b := by
 unfold Wants at *
 split
 ·rename_i hg; rw [hg] at hw; exact hw
 ·rename_i j want hg
  rw [hg] at hw
  obtain ⟨g, h1, h2⟩ := hw
  refine ⟨g, h1, ?_⟩
  rw [putT_ne]
  ·exact h2
  ·rintro d hd rfl
   refine h d hd ?_
   unfold Oper.looksAt
   unfold gtmp at h1
   simp [hg, h1]
theorem wants_unput {T : TF} {o : Oper} {b : Bool} {dst : Option Nat} {v : V} (h : ∀ d, dst = some d → d ∉ Oper.looksAt ops o) (hw : Wants ops (putT nt T dst v) o b) : Wants ops T o b := by
 unfold Wants at *
 split
 ·rename_i hg; rw [hg] at hw; exact hw
 ·rename_i j want hg
  rw [hg] at hw
  obtain ⟨g, h1, h2⟩ := hw
  refine ⟨g, h1, ?_⟩
  rw [putT_ne] at h2
  ·exact h2
  ·rintro d hd rfl
   refine h d hd ?_
   unfold Oper.looksAt
   unfold gtmp at h1
   simp [hg, h1]
theorem operands_put {T : TF} {o : Oper} {dst : Option Nat} {v : V} (h : ∀ d, dst = some d → d ∉ Oper.looksAt ops o) : ∀ x ∈ o.op.operands.toList, evO (putT nt T dst v) x = evO T x := by
 intro x hx
 refine evO_put ?_
 rintro d hd rfl
 refine h d hd ?_
 unfold Oper.looksAt
 refine List.mem_append.2 (.inl (List.mem_filterMap.2 ⟨_, hx, rfl⟩))
theorem own_off {fp : Nat → List Nat} {T : TF} {x j : Nat} {ox oj : Oper} (hx : opKeys T ox.op = fp x) (hj : opKeys T oj.op = fp j) (hne : x ≠ j)
  (h1 : ∀ k ∈ fp x, k ∉ fp j ∧ (k < N0 + 16 * j ∨ N0 + 16 * j + 16 ≤ k)) (h2 : ∀ k ∈ fp j, (k < N0 + 16 * x ∨ N0 + 16 * x + 16 ≤ k)) :
  ∀ k, Own T ox.op (N0 + 16 * x) k → ¬ Own T oj.op (N0 + 16 * j) k := by
 intro k hk hk'
 unfold Own at hk hk'
 rw [hx] at hk
 rw [hj] at hk'
 rcases hk with hk | hk <;> rcases hk' with hk' | hk'
 ·exact (h1 k hk).1 hk'
 ·have := (h1 k hk).2; omega
 ·have := h2 k hk'; omega
 ·omega
theorem own_congr {T T2 : TF} {op : Op} {key : Nat} (h : ∀ x ∈ op.operands.toList, evO T2 x = evO T x) {k : Nat} : Own T2 op key k ↔ Own T op key k := by
 unfold Own
 rw [opKeys_congr h]
theorem hf_ext {H H2 : HF} (h1 : ∀ k, H.var k = H2.var k) (h2 : ∀ k, H.row k = H2.row k) (h3 : H.nx = H2.nx) (h4 : H.dn = H2.dn) : H = H2 := by
 cases H; cases H2
 simp only at h1 h2 h3 h4
 subst h3 h4
 congr 1
 ·exact funext h1
 ·exact funext h2
theorem memswap {A B : Nat → Prop} {f g : HF → Res} (hf : Loc A f) (hg : Loc B g) (hd : ∀ k, A k → ¬ B k) {H H1 H2 : HF} {v u : V} (h1 : (f H).to v H1) (h2 : (g H1).to u H2) :
  ∃ H1', (g H).to u H1' ∧ (f H1').to v H2 := by
 obtain ⟨G, g1, g2⟩ := hf H H v H1 (fun _ _ => ⟨rfl, rfl⟩) h1
 have eG := (Res.to_det g1 h1).2
 subst eG
 obtain ⟨G2, s1, s2⟩ := hg G G u H2 (fun _ _ => ⟨rfl, rfl⟩) h2
 have eG2 := (Res.to_det s1 h2).2
 subst eG2
 have hB : ∀ k, B k → ¬ A k := fun k hb ha => hd k ha hb
 obtain ⟨H1', r1, r2⟩ := hg G H u G2 (fun k hk => ⟨(g2.off k (hB k hk)).1.symm, (g2.off k (hB k hk)).2.symm⟩) h2
 obtain ⟨H3, t1, t2⟩ := hf H H1' v G (fun k hk => r2.off k (hd k hk)) h1
 have e : H3 = G2 := by
  have key : ∀ k, H3.var k = G2.var k ∧ H3.row k = G2.row k := by
   intro k
   by_cases ha : A k
   ·have a := t2.on k ha
    have b := s2.off k (hd k ha)
    exact ⟨a.1.trans b.1.symm, a.2.trans b.2.symm⟩
   ·have a := t2.off k ha
    by_cases hb : B k
    ·have b := r2.on k hb
     exact ⟨a.1.trans b.1, a.2.trans b.2⟩
    ·have b := r2.off k hb
     have c := s2.off k hb
     have d := g2.off k ha
     exact ⟨(a.1.trans b.1).trans (c.1.trans d.1).symm, (a.2.trans b.2).trans (c.2.trans d.2).symm⟩
  exact hf_ext (fun k => (key k).1) (fun k => (key k).2) ((t2.nx.trans r2.nx).trans (s2.nx.trans g2.nx).symm) ((t2.dn.trans r2.dn).trans (s2.dn.trans g2.dn).symm)
 subst e
 exact ⟨H1', r1, t1⟩
theorem swap {fp : Nat → List Nat} {x j : Nat} {T T1 T2 : TF} {H H1 H2 : HF} (h1 : Did E S ops nt N0 fp x T H T1 H1) (h2 : Did E S ops nt N0 fp j T1 H1 T2 H2) (ha : Off E ops N0 fp x j) :
  ∃ T1' H1', Did E S ops nt N0 fp j T H T1' H1' ∧ Did E S ops nt N0 fp x T1' H1' T2 H2 := by
 obtain ⟨ox, b, o1, o2, o3, o4⟩ := h1
 obtain ⟨oj, c, p1, p2, p3, p4⟩ := h2
 obtain ⟨ox', oj', q1, q2, q3, q4⟩ := ha.ex
 rw [o1] at q1
 injection q1 with q1
 rw [p1] at q2
 injection q2 with q2
 subst q1 q2
 have hap : Oper.apart ops ox oj = true := q3
 obtain ⟨a1, a2, a3⟩ := Oper.apart_spec hap
 obtain ⟨vx, hvx⟩ : ∃ v, T1 = putT nt T ox.dst v := by rcases o4 with ⟨_, v, _, e⟩ | ⟨_, _, e⟩ <;> exact ⟨_, e⟩
 have ej : ∀ z ∈ oj.op.operands.toList, evO T1 z = evO T z := by rw [hvx]; exact operands_put a1
 have kj : opKeys T oj.op = fp j := by rw [← p2]; exact (opKeys_congr ej).symm
 have wj : Wants ops T oj c := wants_unput (nt := nt) a1 (by rw [← hvx]; exact p3)
 have wx : ∀ v, Wants ops (putT nt T oj.dst v) ox b := fun v => wants_put a3 o3
 have ex : ∀ v, ∀ z ∈ ox.op.operands.toList, evO (putT nt T oj.dst v) z = evO T z := fun v => operands_put a3
 have kx : ∀ v, opKeys (putT nt T oj.dst v) ox.op = fp x := fun v => by rw [← o2]; exact opKeys_congr (ex v)
 rcases p4 with ⟨rfl, v, p5, p6⟩ | ⟨rfl, p5, p6⟩
 ·rw [opRes_congr ej] at p5
  rcases o4 with ⟨rfl, v', o5, o6⟩ | ⟨rfl, o5, o6⟩
  ·have mem : ∃ H1', (opRes E S (N0 + 16 * j) T H oj.op).to v H1' ∧ (opRes E S (N0 + 16 * x) T H1' ox.op).to v' H2 := by
    rcases q4 with ⟨w1, w2⟩ | ⟨w1, w2⟩
    ·have e1 := opRes_still w1 o5
     subst e1
     have e2 := opRes_still w2 p5
     subst e2
     exact ⟨_, p5, o5⟩
    ·exact memswap (f := fun H => opRes E S (N0 + 16 * x) T H ox.op) (g := fun H => opRes E S (N0 + 16 * j) T H oj.op) opRes_loc opRes_loc (own_off (N0 := N0) o2 kj ha.ne w1 w2) o5 p5
   obtain ⟨H1', m1, m2⟩ := mem
   refine ⟨putT nt T oj.dst v, H1', ⟨oj, true, p1, kj, wj, .inl ⟨rfl, v, m1, rfl⟩⟩, ⟨ox, true, o1, kx v, wx v, .inl ⟨rfl, v', ?_, ?_⟩⟩⟩
   ·rw [opRes_congr (ex v)]; exact m2
   ·rw [p6, o6]
    exact putT_comm a2
  ·subst o5
   refine ⟨putT nt T oj.dst v, H2, ⟨oj, true, p1, kj, wj, .inl ⟨rfl, v, p5, rfl⟩⟩, ⟨ox, false, o1, kx v, wx v, .inr ⟨rfl, rfl, ?_⟩⟩⟩
   rw [p6, o6]
   exact putT_comm a2
 ·subst p5
  refine ⟨putT nt T oj.dst (.tup .nil), H, ⟨oj, false, p1, kj, wj, .inr ⟨rfl, rfl, rfl⟩⟩, ⟨ox, b, o1, kx _, wx _, ?_⟩⟩
  rcases o4 with ⟨rfl, v', o5, o6⟩ | ⟨rfl, o5, o6⟩
  ·refine .inl ⟨rfl, v', ?_, ?_⟩
   ·rw [opRes_congr (ex _)]; exact o5
   ·rw [p6, o6]
    exact putT_comm a2
  ·refine .inr ⟨rfl, o5, ?_⟩
   rw [p6, o6]
   exact putT_comm a2
theorem ahead {β : Type} {inl : FuncId → V → HF → (V → HF → Option β) → Option β} {r : β} {fp : Nat → List Nat} {Q : TF → HF → Prop} {j : Nat} : ∀ {l m : List Nat} {T : TF} {H : HF}, (∀ x ∈ l, Off E ops N0 fp x j ∧ ¬ Pin ops x ∧ ¬ Pin ops j) → Run E S ops nt N0 inl r Q (l ++ j :: m) fp T H → Run E S ops nt N0 inl r Q (j :: (l ++ m)) fp T H
 | [], m, T, H, _, h => h
 | x :: l, m, T, H, hl, h => by
  obtain ⟨fx, h⟩ := h
  obtain ⟨T1, H1, d1, r1⟩ := h.resolve_right fun h => (hl x (by simp)).2.1 h.1
  obtain ⟨fj, h⟩ := ahead (fun y hy => hl y (by simp [hy])) r1
  obtain ⟨T2, H2, d2, r2⟩ := h.resolve_right fun h => (hl x (by simp)).2.2 h.1
  obtain ⟨T1', H1', e1, e2⟩ := swap d1 d2 (hl x (by simp)).1
  exact ⟨fj, .inl ⟨T1', H1', e1, fx, .inl ⟨T2, H2, e2, r2⟩⟩⟩
theorem fact_at {β : Type} {inl : FuncId → V → HF → (V → HF → Option β) → Option β} {r : β} {fp : Nat → List Nat} {Q : TF → HF → Prop} {j : Nat} : ∀ {l m : List Nat} {T : TF} {H : HF}, (∀ x ∈ l, ¬ Pin ops x) → Run E S ops nt N0 inl r Q (l ++ j :: m) fp T H → FactA E ops N0 fp j
 | [], m, T, H, _, h => h.1
 | x :: l, m, T, H, hl, h => by
  obtain ⟨T1, H1, d1, r1⟩ := h.2.resolve_right fun h => hl x (by simp) h.1
  exact fact_at (fun y hy => hl y (by simp [hy])) r1
theorem mem_edges {o : Oper} {j : Nat} : j ∈ edgesOf o ↔ ∃ e ∈ o.after, Region.binds .any e = true ∧ e.on = j := by
 unfold edgesOf
 simp only [List.mem_map, List.mem_filter, Array.mem_toList_iff]
 constructor
 ·rintro ⟨e, ⟨h1, h2⟩, h3⟩; exact ⟨e, h1, h2, h3⟩
 ·rintro ⟨e, h1, h2, h3⟩; exact ⟨e, ⟨h1, h2⟩, h3⟩
theorem Anc.listed {L : Nat → Prop} (hc : ∀ i o j, ops[i]? = some o → L i → j ∈ edgesOf o → L j) {j i : Nat} (h : Anc ops j i) : (∀ o k, ops[i]? = some o → k ∈ edgesOf o → L k) → L j := by
 induction h with
 | one h1 h2 => intro h; exact h _ _ h1 h2
 | more h1 h2 _ ih => intro h; exact ih fun o k ho hk => hc _ o k ho (h _ _ h1 h2) hk
theorem addTo_mem : ∀ {l m : List Nat} {a : Nat}, a ∈ addTo l m → a ∈ l ∨ a ∈ m
 | [], m, a, h => .inr h
 | k :: l, m, a, h => by
  simp only [addTo] at h
  cases hc : m.contains k with
  | true =>
   rw [hc] at h
   exact (addTo_mem h).imp (fun h => by simp [h]) id
  | false =>
   rw [hc] at h
   rcases addTo_mem h with h | h
   ·exact .inl (by simp [h])
   ·rcases List.mem_cons.1 h with h | h
    ·exact .inl (by simp [h])
    ·exact .inr h
theorem ancGo_mem {dir : List Nat} : ∀ {prev : List (Nat × Fp × List Nat)} {m : List Nat} {a : Nat}, a ∈ ancGo dir prev m → a ∈ m ∨ ∃ p ∈ prev, p.1 ∈ dir ∧ a ∈ p.2.2
 | [], m, a, h => .inl h
 | p :: r, m, a, h => by
  simp only [ancGo] at h
  cases hc : dir.contains p.1 with
  | true =>
   rw [hc] at h
   rcases ancGo_mem h with h | ⟨q, h1, h2⟩
   ·rcases addTo_mem h with h | h
    ·exact .inr ⟨p, by simp, by simpa using hc, h⟩
    ·exact .inl h
   ·exact .inr ⟨q, by simp [h1], h2⟩
  | false =>
   rw [hc] at h
   rcases ancGo_mem h with h | ⟨q, h1, h2⟩
   ·exact .inl h
   ·exact .inr ⟨q, by simp [h1], h2⟩
theorem ancOf_mem {dir : List Nat} {prev : List (Nat × Fp × List Nat)} {a : Nat} (h : a ∈ ancOf dir prev) : a ∈ dir ∨ ∃ p ∈ prev, p.1 ∈ dir ∧ a ∈ p.2.2 := ancGo_mem h
structure Prev (ops : Array Oper) (N0 : Nat) (i : Nat) (prev : List (Nat × Fp × List Nat)) : Prop where
 at_ : ∀ p ∈ prev, p.1 < i ∧ ops[p.1]? = some p.2.1.o ∧ p.2.1.key = N0 + 16 * p.1 ∧ ∀ a ∈ p.2.2, Anc ops a p.1
 all : ∀ j, j < i → ∃ p ∈ prev, p.1 = j
 one : ∃ fp : Nat → List Nat, ∀ p ∈ prev, p.2.1.D = fp p.1
theorem upd_same {T : TF} {g : Nat} {v : V} (h : T g = v) : upd T g v = T := by
 funext i
 unfold upd
 by_cases e : i = g
 ·subst e
  simp [h]
 ·simp [nbeq e]
theorem off_of {prev : List (Nat × Fp × List Nat)} {i : Nat} {o : Oper} {T : TF} {fp : Nat → List Nat} (hp : Prev ops N0 i prev) (ho : ops[i]? = some o) (hfp : ∀ p ∈ prev, p.2.1.D = fp p.1) (hi : fp i = opKeys T o.op)
  {p : Nat × Fp × List Nat} (hmem : p ∈ prev) (h : Fp.ok E ops p.2.1 (fpOf (N0 + 16 * i) o T) = true) : Off E ops N0 fp p.1 i := by
 obtain ⟨h1, h2, h3, _⟩ := hp.at_ p hmem
 refine ⟨Nat.ne_of_lt h1, p.2.1.o, o, h2, ho, ?_⟩
 unfold Fp.ok at h
 simp only [Bool.and_eq_true, Bool.or_eq_true, fpOf] at h
 obtain ⟨g1, g2⟩ := h
 refine ⟨g1, ?_⟩
 rcases g2 with ⟨a, b⟩ | ⟨⟨a, b⟩, c⟩
 ·left
  constructor
  ·simpa using a
  ·simpa using b
 ·right
  unfold Fp.off at a b
  simp only [List.all_eq_true, Bool.and_eq_true, Bool.or_eq_true, Nat.blt_eq, Nat.ble_eq] at a b
  rw [← hfp p hmem, hi, ← h3]
  constructor
  ·intro k hk
   have := a k hk
   refine ⟨by simpa using this.1, this.2⟩
  ·intro k hk
   exact (b k hk).2
theorem fwd_anc {i : Nat} : ∀ {rest : List Oper} {q : Nat}, ops.toList.drop q = rest → i < q → (∀ j, i < j → j < q → Anc ops i j) → fwdOk i q rest = true → ∀ k, i < k → k < ops.size → Anc ops i k
 | [], q, hd, hq, hlt, _, k, h1, h2 => by
  have := congrArg List.length hd
  simp at this
  exact hlt k h1 (by omega)
 | o :: rest, q, hd, hq, hlt, hf, k, h1, h2 => by
  have ho : ops[q]? = some o := by
   have := congrArg (fun l => l[0]?) hd
   simpa using this
  have hrest : ops.toList.drop (q + 1) = rest := by
   rw [← List.drop_drop, hd]
   rfl
  simp only [fwdOk, Bool.and_eq_true, List.any_eq_true, Nat.ble_eq, Nat.blt_eq] at hf
  obtain ⟨⟨j, hj, j1, j2⟩, hf⟩ := hf
  have hA : Anc ops i q := by
   rcases Nat.eq_or_lt_of_le j1 with rfl | j1
   ·exact .one ho hj
   ·exact .more ho hj (hlt j j1 j2)
  refine fwd_anc hrest (by omega) (fun j h1 h2 => ?_) hf k h1 h2
  by_cases e : j = q
  ·rw [e]; exact hA
  ·exact hlt j h1 (by omega)
theorem any_run {β : Type} {inl : FuncId → V → HF → (V → HF → Option β) → Option β} {K : TF → HF → Option β} {r : β} : ∀ (rest : List Oper) (i : Nat) (prev : List (Nat × Fp × List Nat)) (T : TF) (H : HF), ops.toList.drop i = rest →
  Prev ops N0 i prev → runAny E S inl nt ops rest i (N0 + 16 * i) prev T H K = some r →
  ∃ fp : Nat → List Nat, (∀ p ∈ prev, p.2.1.D = fp p.1) ∧ Run E S ops nt N0 inl r (fun T H => K T H = some r) (List.range' i (ops.size - i)) fp T H
 | [], i, prev, T, H, hd, hp, hK => by
  have hi : ops.size ≤ i := by
   have := congrArg List.length hd
   simp at this
   omega
  obtain ⟨fp, hfp⟩ := hp.one
  refine ⟨fp, hfp, ?_⟩
  rw [show ops.size - i = 0 by omega]
  exact hK
 | o :: rest, i, prev, T, H, hd, hp, hK => by
  have hi : i < ops.size := by
   have := congrArg List.length hd
   simp at this
   omega
  have ho : ops[i]? = some o := by
   have := congrArg (fun l => l[0]?) hd
   simpa using this
  have hrest : ops.toList.drop (i + 1) = rest := by
   rw [← List.drop_drop, hd]
   rfl
  have hls : List.range' i (ops.size - i) = i :: List.range' (i + 1) (ops.size - (i + 1)) := by
   rw [show ops.size - i = (ops.size - (i + 1)) + 1 by omega, List.range'_succ]
  have hkey : N0 + 16 * i + 16 = N0 + 16 * (i + 1) := by omega
  rw [hls]
  simp only [runAny] at hK
  split at hK
  ·cases hK
  rename_i hcheck
  simp only [Bool.and_eq_true, List.all_eq_true, Bool.or_eq_true, Nat.blt_eq] at hcheck
  obtain ⟨hc1, hc2⟩ := hcheck
  have anc : ∀ a ∈ ancOf (edgesOf o) prev, Anc ops a i := by
   intro a ha
   rcases ancOf_mem ha with ha | ⟨p, h1, h2, h3⟩
   ·exact .one ho ha
   ·exact .more ho h2 ((hp.at_ p h1).2.2.2 a h3)
  have hp' : Prev ops N0 (i + 1) ((i, fpOf (N0 + 16 * i) o T, ancOf (edgesOf o) prev) :: prev) := by
   obtain ⟨fp, hfp⟩ := hp.one
   refine ⟨?_, ?_, fun k => if k = i then opKeys T o.op else fp k, ?_⟩
   ·intro p hpm
    rcases List.mem_cons.1 hpm with rfl | hpm
    ·exact ⟨Nat.lt_succ_self _, ho, rfl, anc⟩
    ·obtain ⟨h1, h2⟩ := hp.at_ p hpm
     exact ⟨Nat.lt_succ_of_lt h1, h2⟩
   ·intro j hj
    rcases Nat.lt_succ_iff_lt_or_eq.1 hj with hj | rfl
    ·obtain ⟨p, h1, h2⟩ := hp.all j hj
     exact ⟨p, by simp [h1], h2⟩
    ·exact ⟨_, List.mem_cons_self, rfl⟩
   ·intro p hpm
    rcases List.mem_cons.1 hpm with rfl | hpm
    ·simp [fpOf]
    ·have h1 := (hp.at_ p hpm).1
     have h2 : p.1 ≠ i := Nat.ne_of_lt h1
     show _ = if p.1 = i then _ else fp p.1
     rw [if_neg h2]
     exact hfp p hpm
  have fin : ∀ (b : Bool) (T' : TF) (H' : HF), Wants ops T o b → ((b = true ∧ ∃ v, (opRes E S (N0 + 16 * i) T H o.op).to v H' ∧ T' = putT nt T o.dst v) ∨ (b = false ∧ H' = H ∧ T' = putT nt T o.dst (.tup .nil))) →
    runAny E S inl nt ops rest (i + 1) (N0 + 16 * i + 16) ((i, fpOf (N0 + 16 * i) o T, ancOf (edgesOf o) prev) :: prev) T' H' K = some r →
    ∃ fp : Nat → List Nat, (∀ p ∈ prev, p.2.1.D = fp p.1) ∧ Run E S ops nt N0 inl r (fun T H => K T H = some r) (i :: List.range' (i + 1) (ops.size - (i + 1))) fp T H := by
   intro b T' H' hw hdo hrun
   rw [hkey] at hrun
   obtain ⟨fp, f1, f2⟩ := any_run rest (i + 1) _ T' H' hrest hp' hrun
   have fi : fp i = opKeys T o.op := (f1 _ List.mem_cons_self).symm
   have fprev : ∀ p ∈ prev, p.2.1.D = fp p.1 := fun p hpm => f1 p (by simp [hpm])
   refine ⟨fp, fprev, ⟨fun oq hoq => ?_, fun j hj => ?_⟩, .inl ⟨T', H', ⟨o, b, ho, fi.symm, hw, hdo⟩, f2⟩⟩
   ·rw [ho] at hoq
    injection hoq with hoq
    subst hoq
    exact fun j hj => by simpa using hc1 j hj
   ·obtain ⟨p, h1, rfl⟩ := hp.all j hj
    rcases hc2 p h1 with h | h
    ·exact .inl (anc _ (by simpa using h))
    ·exact .inr (off_of hp ho fprev fi h1 h)
  have finP : Wants ops T o true → anyK E S inl nt (N0 + 16 * i) o T H (prev.all (fun p => (ancOf (edgesOf o) prev).contains p.1) && fwdOk i (i + 1) rest) (fun T' H' => runAny E S inl nt ops rest (i + 1) (N0 + 16 * i + 16) ((i, fpOf (N0 + 16 * i) o T, ancOf (edgesOf o) prev) :: prev) T' H' K) = some r →
    ∃ fp : Nat → List Nat, (∀ p ∈ prev, p.2.1.D = fp p.1) ∧ Run E S ops nt N0 inl r (fun T H => K T H = some r) (i :: List.range' (i + 1) (ops.size - (i + 1))) fp T H := by
   intro hw h
   unfold anyK at h
   split at h
   ·split at h
    ·rename_i hall
     simp only [Bool.and_eq_true, List.all_eq_true] at hall
     have hbefore : ∀ j, j < i → Anc ops j i := fun j hj => by
      obtain ⟨p, h1, rfl⟩ := hp.all j hj
      exact anc _ (by simpa using hall.1 p h1)
     have hpin : Pin ops i := ⟨hbefore, fwd_anc hrest (Nat.lt_succ_self i) (fun j h1 h2 => by omega) hall.2⟩
     obtain ⟨fp, hfp⟩ := hp.one
     refine ⟨fp, hfp, ⟨fun oq hoq => ?_, fun j hj => .inl (hbefore j hj)⟩, .inr ⟨hpin, o, ho, hw, _, h, fun T1 H1 hrun => ?_⟩⟩
     ·rw [ho] at hoq
      injection hoq with hoq
      subst hoq
      exact fun j hj => by simpa using hc1 j hj
     ·rw [hkey] at hrun
      obtain ⟨fp', _, f2⟩ := any_run rest (i + 1) _ T1 H1 hrest hp' hrun
      exact ⟨fp', f2⟩
    ·cases h
   ·obtain ⟨v, H', hto, hKr⟩ := Res.run_to h
    exact fin true _ H' hw (.inl ⟨rfl, v, hto, rfl⟩) hKr
  split at hK
  ·rename_i hg
   exact finP (by simp [Wants, hg]) hK
  ·rename_i j want hg
   split at hK
   ·cases hK
   ·rename_i g hj
    split at hK
    ·rename_i b hb
     cases b with
     | true =>
      rw [upd_same hb] at hK
      cases want with
      | true =>
       exact finP (by simp only [Wants, hg]; exact ⟨g, hj, .inl ⟨true, hb, rfl⟩⟩) hK
      | false =>
       exact fin false _ H (by simp only [Wants, hg]; exact ⟨g, hj, .inl ⟨true, hb, rfl⟩⟩) (.inr ⟨rfl, rfl, rfl⟩) hK
     | false =>
      rw [upd_same hb] at hK
      cases want with
      | true =>
       exact fin false _ H (by simp only [Wants, hg]; exact ⟨g, hj, .inl ⟨false, hb, rfl⟩⟩) (.inr ⟨rfl, rfl, rfl⟩) hK
      | false =>
       exact finP (by simp only [Wants, hg]; exact ⟨g, hj, .inl ⟨false, hb, rfl⟩⟩) hK
    ·rename_i hb
     exact fin false _ H (by simp only [Wants, hg]; exact ⟨g, hj, .inr ⟨hb, trivial⟩⟩) (.inr ⟨rfl, rfl, rfl⟩) hK
    ·cases hK
end
section
variable {β : Type} {P : Program} {E : TE} {S : FuncId → Option Sum} {inl : FuncId → V → HF → (V → HF → Option β) → Option β} (hv : Env P E S inl) {B : Nat} {s0 : S4} {nt : Nat} {ro : Option Nat}
include hv
theorem stepK_of {key : Nat} {o : Oper} {T : TF} {H H' : HF} {v : V} {K : TF → HF → Option β} (h : (opRes E S key T H o.op).to v H') : stepK E S inl nt key o T H K = K (putT nt T o.dst v) H' := by
 unfold stepK
 split
 ·rename_i c hc
  rw [hc] at h
  simp only [opRes] at h
  unfold callK
  split
  ·rename_i b hb
   rw [hb] at h
   exact Res.run_of h
  ·rename_i x hx
   rw [hx] at h
   simp only at h
   split
   ·rename_i f first caps hf
    rw [hf] at h
    simp only at h
    split
    ·rename_i hY
     exfalso
     split at h
     ·split at h
      ·cases hY
      ·cases h
     ·cases h
    split
    ·rename_i sm hsm
     rw [hsm] at h
     simp only at h
     split
     ·exact Res.run_of h
     ·rename_i hne
      split at h
      ·exact absurd rfl (hne rfl)
      ·cases h
    ·rename_i hsm
     rw [hsm] at h
     cases h
   ·rename_i hne
    split at h
    ·rename_i f first caps hf
     exact absurd hf (hne f first caps)
    ·cases h
  ·rename_i x nm hx
   rw [hx] at h
   cases h
 ·rename_i hne
  have : opRes E S key T H o.op = aopS E key T H o.op := by
   cases ho : o.op with
   | call c => exact absurd ho (hne c)
   | _ => rfl
  rw [this] at h
  exact Res.run_of h
theorem mem_ready' {ops : Array Oper} {j : Nat} {listed : Array Bool} : j ∈ Region.ready .any ops listed ↔
  listed.getD j true = false ∧ ∃ o, ops[j]? = some o ∧ ∀ k ∈ edgesOf o, listed.getD k false = true := by
 rw [mem_ready]
 refine and_congr_right fun _ => exists_congr fun o => and_congr_right fun _ => ?_
 constructor
 ·intro h k hk
  obtain ⟨e, h1, h2, rfl⟩ := mem_edges.1 hk
  exact h e h1 h2
 ·intro h e he hb
  exact h _ (mem_edges.2 ⟨e, he, hb, rfl⟩)
theorem any_wp (hc0 : B ≤ s0.cur) {ops : Array Oper} {N0 : Nat} (hN0 : s0.H.nx ≤ N0) {Q : Exit → Act → World → Prop} {K : TF → HF → Option β} {r : β} (hQ : ∀ a' T' t, Fr ro B s0 nt T' a' t → K T' t.H = some r → Q .normal a' t.W) :
  ∀ (fuel : Nat) (fp : Nat → List Nat) (l : List Nat) (listed : Array Bool) (T : TF) (a : Act) (s : S4), l.length = fuel → l.Pairwise (· < ·) → listed.size = ops.size → (∀ i, i ∈ l ↔ i < ops.size ∧ listed.getD i true = false) →
   (∀ i o j, ops[i]? = some o → listed.getD i false = true → j ∈ edgesOf o → listed.getD j false = true) → Fr ro B s0 nt T a s → N0 + 16 * ops.size ≤ s.H.nx → (∀ i ∈ l, ∀ k, N0 + 16 * i ≤ k → k < N0 + 16 * i + 16 → ¬ s.U k) →
   Run E S ops nt N0 inl r (fun T H => K T H = some r) l fp T s.H → wpAnyIn (FR ro) 0 P .any ops Q fuel listed a s.W := by
 intro fuel
 induction fuel with
 | zero =>
  intro fp l listed T a s hl hs hsz hm hc h hnx hu hr
  have : l = [] := List.eq_nil_of_length_eq_zero hl
  subst this
  refine ⟨?_, hQ a T s h hr⟩
  rw [List.eq_nil_iff_forall_not_mem]
  intro j hj
  obtain ⟨h1, o, h2, _⟩ := (mem_ready' hv).1 hj
  have := (hm j).2 ⟨(Array.getElem?_eq_some_iff.1 h2).1, h1⟩
  simp at this
 | succ fuel ih =>
  intro fp l listed T a s hl hs hsz hm hc h hnx hu hr
  have lst : ∀ j, j < ops.size → j ∉ l → listed.getD j false = true := by
   intro j hj hjl
   have h1 : listed.getD j true ≠ false := fun e => hjl ((hm j).2 ⟨hj, e⟩)
   have h2 : j < listed.size := by omega
   simp only [Array.getD_eq_getD_getElem?, Array.getElem?_eq_getElem h2, Option.getD_some] at h1 ⊢
   simpa using h1
  constructor
  ·intro hready
   cases l with
   | nil => simp at hl
   | cons i0 l =>
    exfalso
    obtain ⟨h1, h2⟩ := (hm i0).1 (by simp)
    have hi0 : i0 ∈ Region.ready .any ops listed := by
     refine (mem_ready' hv).2 ⟨h2, ops[i0], Array.getElem?_eq_getElem h1, fun k hk => ?_⟩
     have hk' := hr.1.1 _ (Array.getElem?_eq_getElem h1) k hk
     refine lst k (by omega) fun hkl => ?_
     rcases List.mem_cons.1 hkl with rfl | hkl
     ·omega
     ·have := (List.pairwise_cons.1 hs).1 k hkl
      omega
    rw [hready] at hi0
    simp at hi0
  ·intro i hi
   obtain ⟨h1, o, h2, h3⟩ := (mem_ready' hv).1 hi
   have hilt := (Array.getElem?_eq_some_iff.1 h2).1
   have hil : i ∈ l := (hm i).2 ⟨hilt, h1⟩
   obtain ⟨l1, l2, rfl⟩ := List.append_of_mem hil
   have hs' := List.pairwise_append.1 hs
   have hno : ∀ x ∈ l1 ++ i :: l2, ¬ Anc ops x i := by
     intro x hx ha
     have := ha.listed (L := fun j => listed.getD j false = true) hc (fun o' k ho' hk => by
      rw [h2] at ho'
      injection ho' with ho'
      subst ho'
      exact h3 k hk)
     have hx2 := ((hm x).1 hx).2
     have hx3 : x < listed.size := by
      have := ((hm x).1 hx).1
      omega
     simp only [Array.getD_eq_getD_getElem?, Array.getElem?_eq_getElem hx3, Option.getD_some] at this hx2
     rw [this] at hx2
     cases hx2
   have hoff : ∀ x ∈ l1, Off E ops N0 fp x i ∧ ¬ Pin ops x ∧ ¬ Pin ops i := by
    intro x hx
    have hxi : x < i := hs'.2.2 x hx i (by simp)
    have hxn := hno x (by simp [hx])
    refine ⟨?_, fun hp => hxn (hp.2 i hxi hilt), fun hp => hxn (hp.1 x hxi)⟩
    have hfi := fact_at (fun y hy hp => hno y (by simp [hy]) (hp.2 i (hs'.2.2 y hy i (by simp)) hilt)) hr
    exact (hfi.2 x hxi).resolve_left hxn
   have hahead := ahead hoff hr
   have next : ∀ (fp' : Nat → List Nat) (T1 : TF) (a1 : Act) (s1 : S4), Fr ro B s0 nt T1 a1 s1 → (∀ k, s1.U k → s.U k ∨ (N0 + 16 * i ≤ k ∧ k < N0 + 16 * i + 16) ∨ s.H.nx ≤ k) → s.H.nx ≤ s1.H.nx → Run E S ops nt N0 inl r (fun T H => K T H = some r) (l1 ++ l2) fp' T1 s1.H →
     wpAnyIn (FR ro) 0 P .any ops Q fuel (listed.setIfInBounds i true) a1 s1.W := by
    intro fp' T1 a1 s1 hF hU hnx' hR
    have hnd : ∀ x ∈ l1 ++ l2, x ≠ i := by
     intro x hx
     rcases List.mem_append.1 hx with hx | hx
     ·exact Nat.ne_of_lt (hs'.2.2 x hx i (by simp))
     ·exact Nat.ne_of_gt ((List.pairwise_cons.1 hs'.2.1).1 x hx)
    refine ih fp' (l1 ++ l2) _ T1 a1 s1 ?_ ?_ (by simpa using hsz) ?_ ?_ hF (by omega) ?_ hR
    ·simp at hl ⊢; omega
    ·exact List.pairwise_append.2 ⟨hs'.1, (List.pairwise_cons.1 hs'.2.1).2, fun x hx y hy => hs'.2.2 x hx y (by simp [hy])⟩
    ·intro j
     by_cases hj : j = i
     ·subst hj
      have hlt : j < listed.size := by omega
      constructor
      ·intro hx; exact absurd rfl (hnd j hx)
      ·rintro ⟨_, hx⟩
       simp [hlt] at hx
     ·rw [getD_set_ne true (Ne.symm hj), ← hm j]
      simp [hj]
    ·intro q oq j hoq hq hj
     by_cases hqi : q = i
     ·subst hqi
      rw [h2] at hoq
      injection hoq with hoq
      subst hoq
      exact getD_set_true (h3 j hj)
     ·rw [getD_set_ne false (Ne.symm hqi)] at hq
      exact getD_set_true (hc q oq j hoq hq hj)
    ·intro x hx k hk1 hk2 hk
     have hne := hnd x hx
     have hxl : x ∈ l1 ++ i :: l2 := by
      rcases List.mem_append.1 hx with hx | hx
      ·simp [hx]
      ·simp [hx]
     have hxs := ((hm x).1 hxl).1
     rcases hU k hk with hk | hk | hk
     ·exact hu x hxl k hk1 hk2 hk
     ·omega
     ·have : 16 * (x + 1) ≤ 16 * ops.size := Nat.mul_le_mul_left _ hxs
      omega
   unfold wpOpIn
   rw [h2]
   have hwant : ∀ b, Wants ops T o b → Region.wanted o (yielded ops a.tmps) = b := fun b d3 => by
    unfold Wants at d3
    split at d3
    ·rename_i hg; simp [Region.wanted, hg, d3]
    ·rename_i j want hg
     obtain ⟨g, g1, ⟨c, g2, rfl⟩ | ⟨g2, rfl⟩⟩ := d3
     ·have hy := yielded_at hv h g1 g2
      simp [Region.wanted, hg, hy]
     ·have hy := unyielded_at hv h g1 g2
      simp [Region.wanted, hg, hy]
   have hki := hu i (by simp)
   have hsz16 : 16 * (i + 1) ≤ 16 * ops.size := Nat.mul_le_mul_left _ hilt
   rcases hahead.2 with ⟨T', H', ⟨o', b1, d1, d2, d3, d4⟩, hrun⟩ | ⟨hpin, o', d1, d3, K1, d4, hrun⟩
   ·rw [h2] at d1
    injection d1 with d1
    subst d1
    have hw := hwant b1 d3
    rcases d4 with ⟨rfl, v, d5, rfl⟩ | ⟨rfl, rfl, rfl⟩
    ·simp only [hw, if_true]
     classical
     refine step_ok hv hc0 (key := N0 + 16 * i) (K := fun T1 H1 => if Run E S ops nt N0 inl r (fun T H => K T H = some r) (l1 ++ l2) fp T1 H1 then some r else none) (r := r) h hki (by omega) (by omega) ?_ ?_
     ·rw [stepK_of hv d5, if_pos hrun]
     ·intro a' T1 t hF hU hnx' hKr
      refine next fp T1 a' t hF hU hnx' ?_
      split at hKr
      ·assumption
      ·cases hKr
    ·simp only [hw]
     obtain ⟨p1, p2⟩ := put_tmps a o.dst undef
     refine ⟨fun _ _ => trivial, ?_⟩
     exact next fp _ (a.put o.dst undef) s ⟨h.m, h.x, trel_put h.t h.n (relV_skip hv), by rw [p1]; exact h.d, p2.trans h.n, h.u⟩ (fun k hk => .inl hk) (Nat.le_refl _) hrun
   ·rw [h2] at d1
    injection d1 with d1
    subst d1
    have hw := hwant true d3
    simp only [hw, if_true]
    refine step_ok hv hc0 (key := N0 + 16 * i) (K := K1) (r := r) h hki (by omega) (by omega) d4 ?_
    intro a' T1 t hF hU hnx' hKr
    obtain ⟨fp', hR⟩ := hrun T1 t.H hKr
    exact next fp' T1 a' t hF hU hnx' hR
theorem any_ok (hc0 : B ≤ s0.cur) (hm : P.follows .mixedOrders = true) {id : Nat} {ops : Array Oper} {T : TF} {a : Act} {s : S4} {Q : Exit → Act → World → Prop} {K : TF → HF → Option β} {r : β} (h : Fr ro B s0 nt T a s)
  (hK : runAny E S inl nt ops ops.toList 0 s.H.nx [] T { s.H with nx := s.H.nx + 16 * ops.size } K = some r) (hQ : ∀ a' T' t, Fr ro B s0 nt T' a' t → K T' t.H = some r → Q .normal a' t.W) :
  (Code.region id ops true).wpIn (FR ro) 0 P Q a s.W := by
 refine wpIn_region_any hm ?_
 let s1 : S4 := { s with W := { s.W with drawn := s.W.drawn + 1 }, H := { s.H with nx := s.H.nx + 16 * ops.size } }
 have x : Ext B s s1 := ⟨fun _ h => h, fun _ h => .inl h, fun _ _ => .eq rfl rfl, ⟨rfl, rfl, rfl, Nat.le_refl _, fun _ _ => rfl⟩, fun _ h => h, Nat.le_add_right _ _, fun k c _ hc => ⟨c, hc, rfl, rfl⟩, fun k r _ hr => ⟨hr, fun _ _ _ => rfl⟩, fun _ _ => rfl, rfl, fun h => h, fun _ _ => rfl⟩
 have m : MemOk B s1 := by
  refine ⟨h.m.ilt, h.m.bsz, fun k hk => Nat.lt_of_lt_of_le (h.m.un k hk) (Nat.le_add_right _ _), fun k c hc => ?_, fun k r' hr => ?_, h.m.vv, h.m.rr, h.m.vr, h.m.hk, h.m.dj.mono x (fun _ _ _ _ _ _ hk => ⟨hk, rfl, rfl⟩) (fun _ _ _ _ ht => ht) (fun _ _ _ _ => rfl)⟩
  ·obtain ⟨h1, h2, h3, o, h4, h5⟩ := h.m.var k c hc
   exact ⟨h1, h2, h3, o, h4, RelO.ext x h5⟩
  ·obtain ⟨h1, h2, h3⟩ := h.m.row k r' hr
   refine ⟨h1, h2, h3.imp (fun q => q) ?_⟩
   rintro ⟨b, base, cur, t, e1, e2, e3, e4, e5, e6⟩
   refine ⟨b, base, cur, t, e1, e2, e3, e4, e5, fun i y hi => ?_⟩
   obtain ⟨c, g1, g2⟩ := e6 i y hi
   exact ⟨c, g1.monoC x.i x.cw, g2⟩
 obtain ⟨fp, _, hrun⟩ := any_run (N0 := s.H.nx) ops.toList 0 [] T { s.H with nx := s.H.nx + 16 * ops.size } rfl ⟨fun p hp => by simp at hp, fun j hj => by omega, fun _ => [], fun p hp => by simp at hp⟩ (by simpa using hK)
 refine any_wp hv hc0 (s0 := s0) h.x.nx (r := r) (K := K) hQ ops.size fp (List.range' 0 ops.size) (Array.replicate ops.size false) T a s1 (by simp) (List.pairwise_lt_range' ..) (by simp) ?_ ?_ ⟨m, h.x.trans x, h.t.ext x, h.d.ext x, h.n, h.u⟩ (Nat.le_refl _) ?_ (by simpa using hrun)
 ·intro i
  by_cases hi : i < ops.size
  ·simp [hi]
  ·simp [hi]
 ·intro i o j ho hl _
  exfalso
  have hi := (Array.getElem?_eq_some_iff.1 ho).1
  simp [hi] at hl
 ·intro i hi k hk1 hk2 hk
  have := h.m.un k hk
  omega
end
end Go.Proofs.YtdokfjkihjkcmaaGreatDoor.Den
