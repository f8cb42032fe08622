/- What the printed functions need: short words, and the summaries' making. -/
import Derived.Test.YtdokfjkihjkcmaaGreatDoorDenT
namespace Go.Proofs.YtdokfjkihjkcmaaGreatDoor.Den
open Go Go.RowKit
set_option linter.unusedVariables false
set_option linter.unusedSectionVars false

@[reducible] def wi8 (n : Int) : Int := IntKind.wrap .i8 n
@[reducible] def wi16 (n : Int) : Int := IntKind.wrap .i16 n
@[reducible] def wi32 (n : Int) : Int := IntKind.wrap .i32 n
@[reducible] def wi64 (n : Int) : Int := IntKind.wrap .i64 n
@[reducible] def wu8 (n : Int) : Int := IntKind.wrap .u8 n
@[reducible] def wu16 (n : Int) : Int := IntKind.wrap .u16 n
@[reducible] def wu32 (n : Int) : Int := IntKind.wrap .u32 n
@[reducible] def wu64 (n : Int) : Int := IntKind.wrap .u64 n

/-- A loop's place: how deep functions are run in place, the function, the numbers' base, the block. -/
structure AE where
  d : Nat
  f : Nat
  b : Nat
  c : Nat
  L : LoopSum
def annOf : List AE → Nat → FuncId → Nat → Nat → Option LoopSum
  | [], _, _, _, _ => none
  | e :: l, d, f, b, c => bif Nat.beq e.d d && (Nat.beq e.f f && (Nat.beq e.b b && Nat.beq e.c c)) then some e.L else annOf l d f b c
theorem annOf_mem : ∀ {l : List AE} {d f b c : Nat} {a : LoopSum}, annOf l d f b c = some a → ∃ e ∈ l, e.d = d ∧ e.f = f ∧ e.b = b ∧ e.c = c ∧ e.L = a
  | [], _, _, _, _, _, h => by cases h
  | e :: l, d, f, b, c, a, h => by
    simp only [annOf] at h
    cases hq : Nat.beq e.d d && (Nat.beq e.f f && (Nat.beq e.b b && Nat.beq e.c c)) with
    | true =>
      rw [hq] at h
      simp only [Bool.and_eq_true] at hq
      injection h with h
      exact ⟨e, by simp, nat_beq hq.1, nat_beq hq.2.1, nat_beq hq.2.2.1, nat_beq hq.2.2.2, h⟩
    | false =>
      rw [hq] at h
      obtain ⟨e', h1, h2⟩ := annOf_mem h
      exact ⟨e', by simp [h1], h2⟩

/-- What is said of a loop at a place is so. -/
def AEok (P : Program) (E : TE) (S : FuncId → Option Sum) (fns : FuncId → Option Func) (ann : Nat → FuncId → Nat → Nat → Option LoopSum) (e : AE) : Prop :=
  ∃ (fn : Func) (code : Code), P.funcs[e.f]? = some fn ∧ (loopsIn (bodyOf fn) 0).filter (fun p => Nat.beq p.1 e.c) = [(e.c, code)] ∧ LoopOk E S (fun β => inlD E S fns ann e.d (β := β)) (ann e.d e.f) fn.ntmps e.f e.b code e.L
theorem loopOk_of {E : TE} {S : FuncId → Option Sum} {fns : FuncId → Option Func} {ann : Nat → FuncId → Nat → Nat → Option LoopSum} {d f nt base : Nat} {c : Code} {a : LoopSum} {st : a.h.C.T → Option (SRes a.h.C a.o.C a.r.C)} {N : Nat}
    (h : (fun x => denStep E S fns ann d f nt base c a x) = st) (hF : a.F = fun x => iterL st N x) : LoopOk E S (fun β => inlD E S fns ann d (β := β)) (ann d f) nt f base c a := by
  intro x o ho
  refine ⟨N, ?_⟩
  rw [hF] at ho
  rw [← h] at ho
  exact ho
theorem aeok_of {P : Program} {E : TE} {S : FuncId → Option Sum} {fns : FuncId → Option Func} {ann : Nat → FuncId → Nat → Nat → Option LoopSum} {d f b c : Nat} {L : LoopSum} {fn : Func} {code : Code} {st : L.h.C.T → Option (SRes L.h.C L.o.C L.r.C)} (N : Nat)
    (hf : P.funcs[f]? = some fn) (hc : (loopsIn (bodyOf fn) 0).filter (fun p => Nat.beq p.1 c) = [(c, code)]) (h : (fun x => denStep E S fns ann d f fn.ntmps b code L x) = st) (hF : L.F = fun x => iterL st N x) : AEok P E S fns ann ⟨d, f, b, c, L⟩ :=
  ⟨fn, code, hf, hc, loopOk_of h hF⟩
theorem loopsOk_of {P : Program} {E : TE} {S : FuncId → Option Sum} {fns : FuncId → Option Func} {es : List AE} (hes : ∀ e ∈ es, AEok P E S fns (annOf es) e) {d f : Nat} {fn : Func} (hf : P.funcs[f]? = some fn) :
    LoopsOk E S (fun β => inlD E S fns (annOf es) d (β := β)) (annOf es d f) f fn := by
  intro base p hp a ha
  obtain ⟨e, he, rfl, rfl, rfl, hc, rfl⟩ := annOf_mem ha
  obtain ⟨fn', code, h1, h2, h3⟩ := hes e he
  rw [hf] at h1
  injection h1 with h1
  subst h1
  have : p ∈ (loopsIn (bodyOf fn) 0).filter (fun p => Nat.beq p.1 e.c) := List.mem_filter.2 ⟨hp, by simp [hc]⟩
  rw [h2] at this
  simp at this
  rw [this]
  exact h3

theorem all_nil {α : Type} {p : α → Prop} : ∀ x ∈ ([] : List α), p x := fun x h => by cases h
theorem all_cons {α : Type} {p : α → Prop} {a : α} {l : List α} (h1 : p a) (h2 : ∀ x ∈ l, p x) : ∀ x ∈ a :: l, p x := by
  intro x hx
  rcases List.mem_cons.1 hx with rfl | hx
  · exact h1
  · exact h2 x hx

/-- A function's summary, of what it comes to. -/
theorem semMk {P : Program} {E : TE} (hE : TEok P E) {sl : List (Nat × Sum)} (hS : ∀ p ∈ sl, SemOf P p.1 p.2) {fl : List (Nat × Func)} (hF : ∀ p ∈ fl, (P.funcs[p.1]? = some p.2 ∧ (p.2.name == "runtime.NumGoroutine") = false) ∧ RngOk p.1 p.2) {es : List AE} {D f : Nat} {fn : Func}
    (hf : P.funcs[f]? = some fn) (hname : (fn.name == "runtime.NumGoroutine") = false) (hbody : fn.body.isNone = false) (hG : RngOk f fn) (hes : ∀ e ∈ es, AEok P E (look1 sl) (look1 fl) (annOf es) e) {sm : Sum} (hl : sm.r.lists = true)
    (h : (fun x => denFun E (look1 sl) (look1 fl) (annOf es) D f fn sm.a sm.r x) = sm.F) : SemOf P f sm := by
  have hfns : FnsOk P (look1 fl) := fun f fn hfn => hF (f, fn) (look1_mem hfn)
  refine semOf hE (S := look1 sl) (fun f sm hsm => hS (f, sm) (look1_mem hsm)) hfns (ann := annOf es) (depth := D) (fun n f fn hn hfn => loopsOk_of hes (hfns f fn hfn).1.1) hf hname hbody (loopsOk_of hes hf) hG hl (fun x r hx => ?_)
  rw [← h] at hx
  exact hx

/-! short words for printed texts -/
/-- What a function's telling leans on: summaries, functions run in place, loops. -/
structure Ctx where
  S : List (Nat × Sum)
  fl : List (Nat × Func)
  es : List AE
/-- What comes of a function. -/
noncomputable def denC (c : Ctx) (d n : Nat) (fn : Func) (sm : Sum) (x : sm.a.T) : Option sm.r.T := denFun TEv (look1 c.S) (look1 c.fl) (annOf c.es) d n fn sm.a sm.r x
/-- What comes of a loop's round. -/
noncomputable def denL (c : Ctx) (d f b : Nat) (fn : Func) (p : List Bool) (L : LoopSum) (x : L.h.C.T) : Option (SRes L.h.C L.o.C L.r.C) := denStep TEv (look1 c.S) (look1 c.fl) (annOf c.es) d f fn.ntmps b (cat (bodyOf fn) p) L x
def AEC (c : Ctx) (e : AE) : Prop := AEok Go.Proofs.Tryz.prog TEv (look1 c.S) (look1 c.fl) (annOf c.es) e
theorem aeC {c : Ctx} {d f b k : Nat} {L : LoopSum} {fn : Func} (p : List Bool) (st : L.h.C.T → Option (SRes L.h.C L.o.C L.r.C)) (hf : Go.Proofs.Tryz.prog.funcs[f]? = some fn) (h : denL c d f b fn p L = st := by kernel_rfl)
    (hc : (loopsIn (bodyOf fn) 0).filter (fun p => Nat.beq p.1 k) = [(k, cat (bodyOf fn) p)] := by kernel_rfl) (hF : L.F = (fun x => iterL st 9223372036854775808 x) := by kernel_rfl) : AEC c ⟨d, f, b, k, L⟩ := aeok_of 9223372036854775808 hf hc h hF
def FlP (p : Nat × Func) : Prop := (Go.Proofs.Tryz.prog.funcs[p.1]? = some p.2 ∧ (p.2.name == "runtime.NumGoroutine") = false) ∧ RngOk p.1 p.2
theorem flC {k : Nat} {fn : Func} (hf : Go.Proofs.Tryz.prog.funcs[k]? = some fn) (hn : (fn.name == "runtime.NumGoroutine") = false := by kernel_rfl) (hG : RngOk k fn := by exact rng_none (by kernel_rfl) (by kernel_rfl)) :
    FlP (k, fn) := ⟨⟨hf, hn⟩, hG⟩
theorem semC {c : Ctx} {f : Nat} {fn : Func} {sm : Sum} (hf : Go.Proofs.Tryz.prog.funcs[f]? = some fn) (hS : ∀ p ∈ c.S, SemOf Go.Proofs.Tryz.prog p.1 p.2) (hF : ∀ p ∈ c.fl, FlP p) (hes : ∀ e ∈ c.es, AEC c e)
    (D : Nat) (h : denC c D f fn sm = sm.F := by kernel_rfl) (hname : (fn.name == "runtime.NumGoroutine") = false := by kernel_rfl) (hbody : fn.body.isNone = false := by rfl) (hG : RngOk f fn := by exact rng_none (by kernel_rfl) (by kernel_rfl)) (hl : sm.r.lists = true := by rfl) : SemOf Go.Proofs.Tryz.prog f sm :=
  semMk teOk hS hF hf hname hbody hG hes hl h
/-- The first that tells something. -/
def orE {α : Type} : Option α → Option α → Option α
  | some r, _ => some r
  | none, y => y
theorem semOr {P : Program} {f : Nat} {a : U} {r : RU} {F G : a.T → Option r.T} (h1 : SemOf P f ⟨a, r, F⟩) (h2 : SemOf P f ⟨a, r, G⟩) : SemOf P f ⟨a, r, fun x => orE (F x) (G x)⟩ :=
  ⟨h1.enters, fun W I hI hG x args y hx hy => by
    have hy : orE (F x) (G x) = some y := hy
    cases e : F x with
    | some z =>
      rw [e] at hy
      have hy : some z = some y := hy
      exact h1.calls W I hI hG x args y hx (by rw [← hy]; exact e)
    | none =>
      rw [e] at hy
      exact h2.calls W I hI hG x args y hx hy⟩
/-- A function of which nothing is told. -/
theorem semDead {f : Nat} {fn : Func} {sm : Sum} (hf : Go.Proofs.Tryz.prog.funcs[f]? = some fn) (h : ∀ x, sm.F x = none) (hname : (fn.name == "runtime.NumGoroutine") = false := by kernel_rfl) (hbody : fn.body.isNone = false := by rfl) : SemOf Go.Proofs.Tryz.prog f sm :=
  ⟨⟨fn, hf, hname, hbody⟩, fun _ _ _ _ x _ _ _ hx => by rw [h x] at hx; cases hx⟩
theorem an {α : Type} {p : α → Prop} : ∀ x ∈ ([] : List α), p x := all_nil
theorem sc {k : Nat} {sm : Sum} {l : List (Nat × Sum)} (h1 : SemOf Go.Proofs.Tryz.prog k sm) (h2 : ∀ p ∈ l, SemOf Go.Proofs.Tryz.prog p.1 p.2) : ∀ p ∈ (k, sm) :: l, SemOf Go.Proofs.Tryz.prog p.1 p.2 := all_cons (p := fun (p : Nat × Sum) => SemOf Go.Proofs.Tryz.prog p.1 p.2) h1 h2
theorem fc {a : Nat × Func} {l : List (Nat × Func)} (h1 : FlP a) (h2 : ∀ p ∈ l, FlP p) : ∀ p ∈ a :: l, FlP p := all_cons h1 h2
theorem ec {c : Ctx} {e : AE} {l : List AE} (h1 : AEC c e) (h2 : ∀ e ∈ l, AEC c e) : ∀ x ∈ e :: l, AEC c x := all_cons h1 h2

/-! Several summaries of one law: true where one of them is. -/
def anyTrue {α : Type} (l : List (α → Option (Bool × Unit))) (x : α) : Option (Bool × Unit) := bif l.any (fun F => decide (F x = some (true, ()))) then some (true, ()) else none
theorem semAny {P : Program} {f : FuncId} {a : U} {F0 : a.T → Option (Bool × Unit)} (h0 : SemOf P f ⟨a, .cons (.d .bool) .nil, F0⟩) {l : List (a.T → Option (Bool × Unit))} (h : ∀ F ∈ l, SemOf P f ⟨a, .cons (.d .bool) .nil, F⟩) : SemOf P f ⟨a, .cons (.d .bool) .nil, anyTrue l⟩ where
  enters := h0.enters
  calls := fun W I hI hG x args r hargs hF => by
    have hF : anyTrue l x = some r := hF
    unfold anyTrue at hF
    cases hq : l.any (fun F => decide (F x = some (true, ()))) with
    | false => rw [hq] at hF; cases hF
    | true =>
      rw [hq] at hF
      obtain ⟨F, hm, he⟩ := List.any_eq_true.1 hq
      have he : F x = some r := by rw [← hF]; exact of_decide_eq_true he
      exact (h F hm).calls W I hI hG x args r hargs he
theorem anyTrue_of {α : Type} {l : List (α → Option (Bool × Unit))} {F : α → Option (Bool × Unit)} (hF : F ∈ l) {x : α} (h : F x = some (true, ())) : anyTrue l x = some (true, ()) := by
  unfold anyTrue
  rw [List.any_eq_true.2 ⟨F, hF, decide_eq_true h⟩]; rfl

/-! A number in a code, put in the place of another: for codes whose numbers the kernel would unfold. -/
def putO (a b : Int) : Operand → Operand
  | .const (.int k n) => .const (.int k (bif n == a then b else n))
  | o => o
def putOp (a b : Int) : Op → Op
  | .binOp o t x y u => .binOp o t (putO a b x) (putO a b y) u
  | o => o
def putOps (a b : Int) : List Oper → List Oper
  | [] => []
  | o :: l => { o with op := putOp a b o.op } :: putOps a b l
def putC (a b : Int) : Code → Code
  | .region n ops f => .region n (putOps a b ops.toList).toArray f
  | .seq x y => .seq (putC a b x) (putC a b y)
  | .cond c x y => .cond c (putC a b x) (putC a b y)
  | .block n x => .block n (putC a b x)
  | .loop x => .loop (putC a b x)
  | c => c
def putF (a b : Int) (f : Func) : Func := { f with body := f.body.map (putC a b) }
end Go.Proofs.YtdokfjkihjkcmaaGreatDoor.Den
