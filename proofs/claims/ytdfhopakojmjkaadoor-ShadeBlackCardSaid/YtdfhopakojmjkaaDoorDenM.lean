/- Each operation that isn't a call, joined. -/
import Derived.Test.YtdfhopakojmjkaaDoorDenL
import Derived.Laws.StructEq
import Derived.Laws.Tables
namespace Go.Proofs.YtdfhopakojmjkaaDoor.Den
open Go Go.RowKit
set_option linter.unusedVariables false

theorem run_eqGuard_int {P : Program} (W : World) (op : BinOp) (t : TypeId) (x y : Operand) (k k' : IntKind) (a b : Int) : (eqGuard op t x y (.int k a) (.int k' b)).run P W = .ok () W := by
  cases op <;> simp [eqGuard]
theorem run_eqGuard_bool {P : Program} (W : World) (op : BinOp) (t : TypeId) (x y : Operand) (a b : Bool) : (eqGuard op t x y (.bool a) (.bool b)).run P W = .ok () W := by
  cases op <;> simp [eqGuard]

theorem binI_ok {P : Program} {s : S4} {op : BinOp} {t : TypeId} {k : IntKind} {a b : Int} {v' : V} {H' : HF} (hto : (binI s.H op k a b).to v' H') :
    H' = s.H ∧ ∃ y, (binOp op t (.int k a) (.int k b)).run P s.W = .ok y s.W ∧ RelV s v' y := by
  cases op <;> simp only [binI, Res.to] at hto
  case quo =>
    rcases hto with ⟨_, hto⟩ | ⟨h0, rfl, rfl⟩
    · cases hto
    · simp only [beq_eq_false_iff_ne, ne_eq] at h0
      exact ⟨rfl, _, by simp [binOp, Op.intDiv, h0], int_relV⟩
  case rem =>
    rcases hto with ⟨_, hto⟩ | ⟨h0, rfl, rfl⟩
    · cases hto
    · simp only [beq_eq_false_iff_ne, ne_eq] at h0
      exact ⟨rfl, _, by simp [binOp, Op.intDiv, h0], int_relV⟩
  case and => obtain ⟨rfl, rfl⟩ := hto; exact ⟨rfl, .int k (bitsI .and k a b), by simp [binOp, Op.intBits, bitsI], int_relV⟩
  case or => obtain ⟨rfl, rfl⟩ := hto; exact ⟨rfl, .int k (bitsI .or k a b), by simp [binOp, Op.intBits, bitsI], int_relV⟩
  case xor => obtain ⟨rfl, rfl⟩ := hto; exact ⟨rfl, .int k (bitsI .xor k a b), by simp [binOp, Op.intBits, bitsI], int_relV⟩
  case andNot => obtain ⟨rfl, rfl⟩ := hto; exact ⟨rfl, .int k (bitsI .andNot k a b), by simp [binOp, Op.intBits, bitsI], int_relV⟩
  case eql => obtain ⟨rfl, rfl⟩ := hto; exact ⟨rfl, _, by simp [binOp, Op.intCmp], bool_relV⟩
  case neq => obtain ⟨rfl, rfl⟩ := hto; exact ⟨rfl, _, by simp [binOp, Op.intCmp], bool_relV⟩
  case lss => obtain ⟨rfl, rfl⟩ := hto; exact ⟨rfl, _, by simp [binOp, Op.intCmp], bool_relV⟩
  case leq => obtain ⟨rfl, rfl⟩ := hto; exact ⟨rfl, _, by simp [binOp, Op.intCmp], bool_relV⟩
  case gtr => obtain ⟨rfl, rfl⟩ := hto; exact ⟨rfl, _, by simp [binOp, Op.intCmp], bool_relV⟩
  case geq => obtain ⟨rfl, rfl⟩ := hto; exact ⟨rfl, _, by simp [binOp, Op.intCmp], bool_relV⟩
  case add => obtain ⟨rfl, rfl⟩ := hto; exact ⟨rfl, _, by simp [binOp, Op.intArith], int_relV⟩
  case sub => obtain ⟨rfl, rfl⟩ := hto; exact ⟨rfl, _, by simp [binOp, Op.intArith], int_relV⟩
  case mul => obtain ⟨rfl, rfl⟩ := hto; exact ⟨rfl, _, by simp [binOp, Op.intArith], int_relV⟩

theorem shift_ok {P : Program} {s : S4} {left : Bool} {k k' : IntKind} {a b : Int} {v' : V} {H' : HF} (hto : (Res.ite (decide (b < 0)) .fail (.ok (.d (.int k) (shiftI left k a b)) s.H)).to v' H') :
    H' = s.H ∧ ∃ y, (Op.shift (match left with | true => .shl | false => .shr) k a k' b).run P s.W = .ok y s.W ∧ RelV s v' y := by
  rcases hto with ⟨_, hto⟩ | ⟨h0, rfl, rfl⟩
  · cases hto
  · have h0 := of_decide_eq_false h0
    refine ⟨rfl, .int k (shiftI left k a b), ?_, int_relV⟩
    cases left <;> simp [Op.shift, h0, shiftI]

theorem binV_ok {P : Program} {E : TE} (hE : TEok P E) {B : Nat} {s : S4} (h : MemOk B s) {op : BinOp} {t : TypeId} {x y : V} {X Y : Value} (hx : RelV s x X) (hy : RelV s y Y) (px py : Operand) {v' : V} {H' : HF} (hto : (binV E s.H op t x y).to v' H') :
    H' = s.H ∧ (eqGuard op t px py X Y).run P s.W = .ok () s.W ∧ ∃ z, (binOp op t X Y).run P s.W = .ok z s.W ∧ RelV s v' z := by
  unfold binV at hto
  split at hto
  · rename_i k a k' b
    obtain rfl := relV_int hx
    obtain rfl := relV_int hy
    split at hto
    · obtain ⟨e, z, h1, h2⟩ := shift_ok (P := P) (k' := k') hto
      exact ⟨e, run_eqGuard_int .., z, by simpa [binOp] using h1, h2⟩
    · obtain ⟨e, z, h1, h2⟩ := shift_ok (P := P) (k' := k') hto
      exact ⟨e, run_eqGuard_int .., z, by simpa [binOp] using h1, h2⟩
    · split at hto
      · rename_i hk
        have hk : k = k' := of_decide_eq_true hk
        subst hk
        obtain ⟨e, z, h1, h2⟩ := binI_ok (P := P) (t := t) hto
        exact ⟨e, run_eqGuard_int .., z, h1, h2⟩
      · cases hto
  · rename_i a b
    obtain rfl := relV_bool hx
    obtain rfl := relV_bool hy
    split at hto
    · rename_i hb
      have hb := hE.bool t hb
      split at hto
      · obtain ⟨rfl, rfl⟩ := hto
        exact ⟨rfl, run_eqGuard_bool .., _, run_eql_bool s.W t a b hb, bool_relV⟩
      · obtain ⟨rfl, rfl⟩ := hto
        exact ⟨rfl, run_eqGuard_bool .., _, run_neq_bool s.W t a b hb, bool_relV⟩
      · cases hto
    · cases hto
  · split at hto
    · rename_i u hu
      split at hto
      · rename_i hq
        simp only [Bool.and_eq_true] at hq
        obtain ⟨g1, g2⟩ := hE.eq t u hu hq.1 hq.2
        split at hto
        · rename_i xx hxx
          split at hto
          · rename_i yy hyy
            obtain ⟨xs, x1, x2, _⟩ := deepen_cells h hxx hx
            obtain ⟨ys, y1, y2, _⟩ := deepen_cells h hyy hy
            rw [hq.2] at x2 y2
            simp only [IsVal] at x2 y2
            subst x2 y2
            have hr := g2 s.W _ _ xx yy xs ys x1 y1
            split at hto
            · obtain ⟨rfl, rfl⟩ := hto
              exact ⟨rfl, run_eqGuard_agg s.W _ t px py _ _ g1, _, by rw [run_eql_struct, hr]; rfl, bool_relV⟩
            · obtain ⟨rfl, rfl⟩ := hto
              exact ⟨rfl, run_eqGuard_agg s.W _ t px py _ _ g1, _, by rw [run_neq_struct, hr]; rfl, bool_relV⟩
            · cases hto
          · cases hto
        · cases hto
      · cases hto
    · cases hto

theorem unV_ok {P : Program} {s : S4} {op : UnOp} {x v' : V} {X : Value} {H' : HF} (hx : RelV s x X) (hto : (unV s.H op x).to v' H') : H' = s.H ∧ ∃ y, (Op.unary op X).run P s.W = .ok y s.W ∧ RelV s v' y := by
  unfold unV at hto
  split at hto
  · rename_i b
    obtain rfl := relV_bool hx
    split at hto
    · obtain ⟨rfl, rfl⟩ := hto
      exact ⟨rfl, _, by simp [Op.unary], bool_relV⟩
    · cases hto
  · rename_i k n
    obtain rfl := relV_int hx
    split at hto
    · obtain ⟨rfl, rfl⟩ := hto
      exact ⟨rfl, .int k (k.wrap (0 - n)), by simp [Op.unary, Op.intArith], int_relV⟩
    · obtain ⟨rfl, rfl⟩ := hto
      exact ⟨rfl, .int k (bitsI .xor k (if k.signed then -1 else k.max) n), by simp [Op.unary, Op.intBits, bitsI], int_relV⟩
    · cases hto
  · cases hto

/-! ### an array's element; a tuple's part -/
theorem run_part {P : Program} {e : TypeId} {u : U} {bt : Nat} (he : ElemFact P e u bt) (W : World) (cs : Array Value) (o : Nat) (vs : List Value) (hl : vs.length = u.size) (hv : (cs.toList.drop o).take u.size = vs) :
    ∃ y, (part e cs o).run P W = .ok y W ∧ IsVal u.agg vs y := by
  obtain ⟨d, hd, hg⟩ := he.und
  obtain ⟨i, z, hi, hsz, _⟩ := he.info
  have hagg : (isAgg e).run P W = .ok u.agg W := by
    unfold isAgg underlying
    simp only [Sem.run_bind, run_program, Result.andThen_ok, hd, Sem.run_pure]
    rw [← hg]
    cases d <;> rfl
  have hs : (sizeOf e).run P W = .ok u.size W := by simp [sizeOf, typeInfo, hi, hsz]
  unfold part
  simp only [Sem.run_bind, hagg, Result.andThen_ok]
  cases hu : u.agg with
  | true =>
    refine ⟨.agg (cs.extract o (o + u.size)), ?_, ?_⟩
    · simp [hs]
    · simp only [IsVal]
      congr 1
      apply Array.ext'
      rw [Array.toList_extract, ← hv]
      simp [List.extract_eq_take_drop]
  | false =>
    have h1 : u.size = 1 := by
      cases u <;> simp [U.agg] at hu <;> rfl
    rw [h1] at hl hv
    obtain ⟨v, rfl⟩ : ∃ v, vs = [v] := by
      match vs, hl with
      | [v], _ => exact ⟨v, rfl⟩
    have : cs[o]? = some v := by
      have := congrArg (fun l => l[0]?) hv
      simpa using this
    exact ⟨v, by simp [this], rfl⟩

theorem index_ok {P : Program} {t e n : Nat} {u : U} {bt : Nat} (ht : P.underlying t = some (.array n e)) (he : ElemFact P e u bt) {s : S4} {xs : List u.T} {X : Value} (hx : RelV s (.d (.arr n u) xs) X) {k : IntKind} {i : Int} (h0 : 0 ≤ i) (hi : i < n) :
    ∃ y, (Instr.index t X (.int k i)).run P s.W = .ok y s.W ∧ RelV s (.d u (xs.getD i.toNat u.zero)) y := by
  obtain ⟨cs, h1, h2⟩ := hx.get (by intro h; cases h) (by intro w h; cases h)
  simp only [RelC, RelD] at h1
  obtain ⟨hl, hc, hel⟩ := h1
  have h2 : X = .agg cs.toArray := h2
  subst h2
  have hin : i.toNat < xs.length := by rw [hl]; omega
  have hr := hel _ _ (getD_of (d := u.zero) hin)
  obtain ⟨y, hy, hv⟩ := run_part (P := P) he s.W cs.toArray (i.toNat * u.size) _ hr.len rfl
  obtain ⟨d, z, hi', hsz, _⟩ := he.info
  have hs : (sizeOf e).run P s.W = .ok u.size s.W := by simp [sizeOf, typeInfo, hi', hsz]
  refine ⟨y, ?_, relV_d hr hv⟩
  have hcond : 0 ≤ i ∧ i < (n : Int) := ⟨h0, hi⟩
  simp [Instr.index, asIntOf, run_underlying ht, hcond, hs, hy]

theorem nth_ok {s : S4} : ∀ {vs : V} {l : List Value} {i : Nat} {v : V}, aop.nthV vs i = some v → RelVL s vs l → ∃ x, l[i]? = some x ∧ RelV1 s v x
  | .cons a b, l, 0, v, h, hr => by
    simp only [aop.nthV] at h
    injection h with h
    subst h
    obtain ⟨x, r, rfl, h1, _⟩ := hr
    exact ⟨x, rfl, h1⟩
  | .cons a b, l, i + 1, v, h, hr => by
    simp only [aop.nthV] at h
    obtain ⟨x, r, rfl, _, h2⟩ := hr
    obtain ⟨y, h3, h4⟩ := nth_ok h h2
    exact ⟨y, by simpa using h3, h4⟩
  | .d _ _, _, _, _, h, _ => by simp [aop.nthV] at h
  | .nil, _, _, _, h, _ => by simp [aop.nthV] at h
  | .nilsl, _, _, _, h, _ => by simp [aop.nthV] at h
  | .dfull _ _, _, _, _, h, _ => by simp [aop.nthV] at h
  | .row _, _, _, _, h, _ => by simp [aop.nthV] at h
  | .rsub _ _ _, _, _, _, h, _ => by simp [aop.nthV] at h
  | .pvar _ _, _, _, _, h, _ => by simp [aop.nthV] at h
  | .prow _ _ _, _, _, _, h, _ => by simp [aop.nthV] at h
  | .pdeep _ _, _, _, _, h, _ => by simp [aop.nthV] at h
  | .fn _ _ _, _, _, _, h, _ => by simp [aop.nthV] at h
  | .tup _, _, _, _, h, _ => by simp [aop.nthV] at h
  | .undef, _, _, _, h, _ => by simp [aop.nthV] at h
theorem listV_rel {s : S4} {T : TF} {a : Act} (hT : TRel s T a.tmps) : ∀ (l : List Operand), (aop.listV T l).cell = true → RelL s (aop.listV T l) (l.map a.eval)
  | [], _ => by simp only [aop.listV, RelL]; rfl
  | x :: l, h => by
    simp only [aop.listV, V.cell, Bool.and_eq_true] at h ⊢
    simp only [RelL]
    obtain ⟨cs, h1, h2⟩ := (evO_rel hT x).get (cell_not h.1).1 (cell_not h.1).2
    exact ⟨_, _, cs, rfl, h1, h2, listV_rel hT l h.2⟩
theorem RelV1.toV {s : S4} {v : V} {x : Value} (h : RelV1 s v x) : RelV s v x := by
  cases v with
  | tup w =>
    rcases h with h | ⟨cs, h, _⟩
    · cases h
    · simp only [RelC] at h
  | _ => exact h
end Go.Proofs.YtdfhopakojmjkaaDoor.Den
