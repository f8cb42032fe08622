/- The types' table, by closed checks: 'teOk_of'. -/
import Derived.Test.YtdfhopakojmjkaaDoorDenV
import Derived.ChangeKeysEq
namespace Go.Proofs.YtdfhopakojmjkaaDoor.Den
open Go Go.RowKit
set_option linter.unusedVariables false
set_option linter.unusedSectionVars false

def look1 {α : Type} : List (Nat × α) → Nat → Option α
  | [], _ => none
  | (k, v) :: r, i => bif Nat.beq k i then some v else look1 r i
def look2 : List (Nat × Nat × Nat) → Nat → Nat → Option Nat
  | [], _, _ => none
  | (k, f, v) :: r, i, j => bif Nat.beq k i && Nat.beq f j then some v else look2 r i j
theorem look1_mem {α : Type} : ∀ {l : List (Nat × α)} {i : Nat} {v : α}, look1 l i = some v → (i, v) ∈ l
  | [], i, v, h => by cases h
  | (k, w) :: l, i, v, h => by
    simp only [look1] at h
    cases e : Nat.beq k i with
    | true =>
      rw [e] at h
      have := nat_beq e
      subst this
      injection h with h
      subst h
      simp
    | false =>
      rw [e] at h
      exact List.mem_cons_of_mem _ (look1_mem h)
theorem look2_mem : ∀ {l : List (Nat × Nat × Nat)} {i j v : Nat}, look2 l i j = some v → (i, j, v) ∈ l
  | [], i, j, v, h => by cases h
  | (k, f, w) :: l, i, j, v, h => by
    simp only [look2] at h
    cases e : Nat.beq k i && Nat.beq f j with
    | true =>
      rw [e] at h
      simp only [Bool.and_eq_true] at e
      have h1 := nat_beq e.1
      have h2 := nat_beq e.2
      subst h1 h2
      injection h with h
      subst h
      simp
    | false =>
      rw [e] at h
      exact List.mem_cons_of_mem _ (look2_mem h)

/-- The tables. -/
structure TL where
  tyL : List (Nat × U)
  elL : List (Nat × U)
  arL : List (Nat × Nat × U)
  ebL : List (Nat × Nat)
  szL : List (Nat × Nat × Bool)
  foL : List (Nat × Nat × Nat)
  stL : List Nat
def TL.te (l : TL) : TE := { ty := look1 l.tyL, elem := look1 l.elL, aelem := look1 l.arL, ebytes := fun t => (look1 l.ebL t).getD 0, sz := look1 l.szL, foff := look2 l.foL, str := fun t => l.stL.contains t }

/-- A struct's fields: offset and size. -/
def fldL : U → Nat → List (Nat × Nat)
  | .cons a b, o => (o, a.size) :: fldL b (o + a.size)
  | _, _ => []
theorem off_fldL : ∀ {u : U} {f o p : Nat}, u.off [.fld f] = some o → ∃ v, dcode u [.fld f] = some v ∧ (fldL u p)[f]? = some (p + o, v.size)
  | .cons a b, 0, o, p, h => by
    have h : a.off [] = some o := h
    have : o = 0 := by cases a <;> simpa [U.off] using h.symm
    subst this
    refine ⟨a, by cases a <;> rfl, rfl⟩
  | .cons a b, f + 1, o, p, h => by
    simp only [U.off] at h
    split at h
    · rename_i o' h'
      injection h with h
      subst h
      obtain ⟨v, h1, h2⟩ := off_fldL (p := p + a.size) h'
      exact ⟨v, h1, by simp only [fldL, List.getElem?_cons_succ, h2]; congr 2; omega⟩
    · cases h
  | .int _, _, _, _, h => by simp [U.off] at h
  | .bool, _, _, _, h => by simp [U.off] at h
  | .sl _, _, _, _, h => by simp [U.off] at h
  | .nil, _, _, _, h => by simp [U.off] at h
  | .arr _ _, f, _, _, h => by cases f <;> simp [U.off] at h

section
variable (P : Program)
def zeroOf (t : Nat) : Option (List Value) := ((P.info? t).bind (·.zero)).map (·.cells.toList)
def aggOf (t : Nat) : Option Bool := (P.underlying t).map aggDesc
def sizeOf? (t : Nat) : Option Nat := (P.info? t).map (·.size)
def bytesOf? (t : Nat) : Option Nat := (P.info? t).map (·.bytes)
def sliceOf (t : Nat) : Option Nat := match P.underlying t with
  | some (.slice e) => some e
  | _ => none
def arrOf (t : Nat) : Option (Nat × Nat) := match P.underlying t with
  | some (.array n e) => some (n, e)
  | _ => none
def structOf (t : Nat) : Option (Array Field) := match P.underlying t with
  | some (.struct fs) => some fs
  | _ => none
def isInt (k : IntKind) (t : Nat) : Bool := match P.underlying t with
  | some (.int k') => decide (k = k')
  | _ => false
def isBool (t : Nat) : Bool := match P.underlying t with
  | some .bool => true
  | _ => false
def isStr (t : Nat) : Bool := match P.underlying t with
  | some .string => true
  | _ => false
def placesOf (fs : Array Field) : Option (List (Nat × Nat)) := fs.toList.mapM (fun f => (P.info? f.type).map fun i => (f.offset, i.size))

def tyChk (p : Nat × U) : Bool := match p.2 with
  | .int k => isInt P k p.1
  | .bool => isBool P p.1
  | .cons a b => match structOf P p.1 with
    | some fs => match placesOf P fs with
      | some l => decide (l = fldL (.cons a b) 0)
      | none => false
    | none => false
  | .nil => match structOf P p.1 with
    | some fs => (placesOf P fs).isSome
    | none => false
  | _ => true
def szChk (p : Nat × Nat × Bool) : Bool := decide (aggOf P p.1 = some p.2.2) && decide (sizeOf? P p.1 = some p.2.1) && (p.2.2 || Nat.beq p.2.1 1)
def elChk (l : TL) (p : Nat × U) : Bool := match sliceOf P p.1 with
  | some e => decide (aggOf P e = some p.2.agg) && decide (sizeOf? P e = some p.2.size) && decide (bytesOf? P e = some ((look1 l.ebL p.1).getD 0))
  | none => false
def arChk (p : Nat × Nat × U) : Bool := match arrOf P p.1 with
  | some (n, e) => Nat.beq n p.2.1 && decide (aggOf P e = some p.2.2.agg) && decide (sizeOf? P e = some p.2.2.size)
  | none => false
def foChk (p : Nat × Nat × Nat) : Bool := match structOf P p.1 with
  | some fs => match fs[p.2.1]? with
    | some fd => Nat.beq fd.offset p.2.2 && (match sizeOf? P fd.type with
      | some n => !(Nat.beq n 0)
      | none => false)
    | none => false
  | none => false
/-! '==' -/
def eqF (eqT : U → Nat → Bool) : U → List Field → Nat → Bool
  | .cons a b, f :: fs, o => decide (f.name ≠ "_") && Nat.beq f.offset o && decide (aggOf P f.type = some a.agg) && decide (sizeOf? P f.type = some a.size) && eqT a f.type && eqF eqT b fs (o + a.size)
  | .nil, [], _ => true
  | _, _, _ => false
def eqT : Nat → U → Nat → Bool
  | 0, _, _ => false
  | _ + 1, .int k, t => isInt P k t
  | _ + 1, .bool, t => isBool P t
  | _ + 1, .sl _, _ => false
  | d + 1, .arr n u, t => match arrOf P t with
    | some (m, e) => Nat.beq n m && decide (aggOf P e = some u.agg) && decide (sizeOf? P e = some u.size) && eqT d u e
    | none => false
  | d + 1, .nil, t => match structOf P t with
    | some fs => !P.stoodInHeld t && eqF P (eqT d) .nil fs.toList 0
    | none => false
  | d + 1, .cons a b, t => match structOf P t with
    | some fs => !P.stoodInHeld t && eqF P (eqT d) (.cons a b) fs.toList 0
    | none => false
def eqChk (p : Nat × U) : Bool := !(p.2.eqok && p.2.agg) || (!P.eqGuardType P.depth p.1 && eqT P 20 p.2 p.1)
def teChk (l : TL) : Bool := P.follows .mixedOrders && l.tyL.all (tyChk P) && l.szL.all (szChk P) && l.elL.all (elChk P l) && l.arL.all (arChk P) && l.foL.all (foChk P) && l.stL.all (isStr P) && l.tyL.all (eqChk P)

variable {P}
theorem isInt_ok {k : IntKind} {t : Nat} (h : isInt P k t = true) : P.underlying t = some (.int k) := by
  unfold isInt at h
  split at h
  · rename_i k' hk
    have : k = k' := of_decide_eq_true h
    rw [hk, this]
  · cases h
theorem isBool_ok {t : Nat} (h : isBool P t = true) : P.underlying t = some .bool := by
  unfold isBool at h
  split at h
  · assumption
  · cases h
theorem isStr_ok {t : Nat} (h : isStr P t = true) : P.underlying t = some .string := by
  unfold isStr at h
  split at h
  · assumption
  · cases h
theorem sliceOf_ok {t e : Nat} (h : sliceOf P t = some e) : P.underlying t = some (.slice e) := by
  unfold sliceOf at h
  split at h
  · rename_i e' he
    injection h with h
    rw [he, h]
  · cases h
theorem arrOf_ok {t n e : Nat} (h : arrOf P t = some (n, e)) : P.underlying t = some (.array n e) := by
  unfold arrOf at h
  split at h
  · rename_i n' e' he
    injection h with h
    injection h with h1 h2
    rw [he, h1, h2]
  · cases h
theorem structOf_ok {t : Nat} {fs : Array Field} (h : structOf P t = some fs) : P.underlying t = some (.struct fs) := by
  unfold structOf at h
  split at h
  · rename_i e' he
    injection h with h
    rw [he, h]
  · cases h
theorem aggOf_ok {t : Nat} {g : Bool} (h : aggOf P t = some g) : ∃ d, P.underlying t = some d ∧ aggDesc d = g := by
  unfold aggOf at h
  exact Option.map_eq_some_iff.1 h
theorem sizeOf_ok {t n : Nat} (h : sizeOf? P t = some n) : ∃ i, P.info? t = some i ∧ i.size = n := by
  unfold sizeOf? at h
  exact Option.map_eq_some_iff.1 h

theorem run_part' {e : TypeId} {u : U} (hd : ∃ d, P.underlying e = some d ∧ aggDesc d = u.agg) (hi : ∃ i, P.info? e = some i ∧ i.size = u.size) (W : World) (cs : Array Value) (o : Nat) (vs : List Value) (hl : vs.length = u.size) (hv : (cs.toList.drop o).take u.size = vs) :
    ∃ y, (part e cs o).run P W = .ok y W ∧ IsVal u.agg vs y := by
  obtain ⟨d, hd, hg⟩ := hd
  obtain ⟨i, hi, hsz⟩ := hi
  have hagg : (isAgg e).run P W = .ok u.agg W := by
    unfold isAgg underlying
    simp only [Sem.run_bind, run_program, Result.andThen_ok, hd, Sem.run_pure]
    rw [← hg]
    cases d <;> rfl
  have hs : (sizeOf e).run P W = .ok u.size W := by simp [sizeOf, typeInfo, hi, hsz]
  unfold part
  simp only [Sem.run_bind, hagg, Result.andThen_ok]
  cases hu : u.agg with
  | true =>
    refine ⟨.agg (cs.extract o (o + u.size)), ?_, ?_⟩
    · simp [hs]
    · simp only [IsVal]
      congr 1
      apply Array.ext'
      rw [Array.toList_extract, ← hv]
      simp [List.extract_eq_take_drop]
  | false =>
    have h1 : u.size = 1 := by
      cases u <;> simp [U.agg] at hu <;> rfl
    rw [h1] at hl hv
    obtain ⟨v, rfl⟩ : ∃ v, vs = [v] := by
      match vs, hl with
      | [v], _ => exact ⟨v, rfl⟩
    have : cs[o]? = some v := by
      have := congrArg (fun l => l[0]?) hv
      simpa using this
    exact ⟨v, by simp [this], rfl⟩

section
variable {W : World} {I I' : Nat → Prop}
/-- '==' of two values of a code, at a depth. -/
def EqOk (P : Program) (W : World) (I I' : Nat → Prop) (d : Nat) (u : U) (t : Nat) : Prop := ∀ (x y : u.T) (xs ys : List Value) (X Y : Value), RelD W I u x xs → RelD W I' u y ys → IsVal u.agg xs X → IsVal u.agg ys Y → (Op.equalIn d t X Y).run P W = .ok (u.eq x y) W
theorem eqF_ok {e : U → Nat → Bool} {d : Nat} (ih : ∀ u t, e u t = true → EqOk P W I I' d u t) : ∀ {u : U} {fs : List Field} {o : Nat}, eqF P e u fs o = true → ∀ (x y : u.T) (XS YS : Array Value) (xs ys : List Value), RelD W I u x xs → RelD W I' u y ys → XS.toList.drop o = xs → YS.toList.drop o = ys →
    (Op.eqFields d XS YS fs).run P W = .ok (u.eq x y) W
  | .cons a b, f :: fs, o, h, x, y, XS, YS, xs, ys, hx, hy, ex, ey => by
    simp only [eqF, Bool.and_eq_true, decide_eq_true_eq] at h
    obtain ⟨⟨⟨⟨⟨h1, h2⟩, h3⟩, h4⟩, h5⟩, h6⟩ := h
    have h2 := nat_beq h2
    obtain ⟨c1, c2, rfl, x1, x2⟩ := hx
    obtain ⟨d1, d2, rfl, y1, y2⟩ := hy
    obtain ⟨p, p1, p2⟩ := run_part' (P := P) (aggOf_ok h3) (sizeOf_ok h4) W XS o c1 x1.len (by rw [ex, ← x1.len]; simp)
    obtain ⟨q, q1, q2⟩ := run_part' (P := P) (aggOf_ok h3) (sizeOf_ok h4) W YS o d1 y1.len (by rw [ey, ← y1.len]; simp)
    have hr := ih a f.type h5 x.1 y.1 c1 d1 p q x1 y1 p2 q2
    have hn : XS.toList.drop (o + a.size) = c2 := by rw [← List.drop_drop, ex, ← x1.len, List.drop_left]
    have hm : YS.toList.drop (o + a.size) = d2 := by rw [← List.drop_drop, ey, ← y1.len, List.drop_left]
    have hrec := eqF_ok ih h6 x.2 y.2 XS YS c2 d2 x2 y2 hn hm
    simp only [Op.eqFields, h1, ne_eq, not_false_eq_true, if_true, Sem.run_bind, h2, p1, q1, hr, Result.andThen_ok, U.eq]
    cases a.eq x.1 y.1 with
    | true => simpa using hrec
    | false => simp
  | .nil, [], o, h, x, y, XS, YS, xs, ys, hx, hy, ex, ey => by simp [Op.eqFields, U.eq]
  | .nil, _ :: _, _, h, _, _, _, _, _, _, _, _, _, _ => by simp [eqF] at h
  | .cons _ _, [], _, h, _, _, _, _, _, _, _, _, _, _ => by simp [eqF] at h
  | .int _, _, _, h, _, _, _, _, _, _, _, _, _, _ => by simp [eqF] at h
  | .bool, _, _, h, _, _, _, _, _, _, _, _, _, _ => by simp [eqF] at h
  | .sl _, _, _, h, _, _, _, _, _, _, _, _, _, _ => by simp [eqF] at h
  | .arr _ _, _, _, h, _, _, _, _, _, _, _, _, _, _ => by simp [eqF] at h
theorem eqItems_ok {d e n : Nat} {u : U} (he : EqOk P W I I' d u e) (ha : ∃ d, P.underlying e = some d ∧ aggDesc d = u.agg) (hs : ∃ i, P.info? e = some i ∧ i.size = u.size) {xs ys : List u.T} {XS YS : Array Value} (hx : RelD W I (.arr n u) xs XS.toList) (hy : RelD W I' (.arr n u) ys YS.toList) :
    ∀ (k j : Nat), j + k = n → (Op.eqItems d e u.size XS YS (List.range' j k)).run P W = .ok (((xs.drop j).zip (ys.drop j)).all fun p => u.eq p.1 p.2) W
  | 0, j, hj => by
    have : xs.drop j = [] := List.drop_eq_nil_of_le (by rw [hx.1]; omega)
    simp [Op.eqItems, this]
  | k + 1, j, hj => by
    have hjx : j < xs.length := by rw [hx.1]; omega
    have hjy : j < ys.length := by rw [hy.1]; omega
    have rx := hx.2.2 j _ (List.getElem?_eq_getElem hjx)
    have ry := hy.2.2 j _ (List.getElem?_eq_getElem hjy)
    obtain ⟨p, p1, p2⟩ := run_part' (P := P) ha hs W XS (j * u.size) _ rx.len rfl
    obtain ⟨q, q1, q2⟩ := run_part' (P := P) ha hs W YS (j * u.size) _ ry.len rfl
    have hr := he _ _ _ _ p q rx ry p2 q2
    have hrec := eqItems_ok he ha hs hx hy k (j + 1) (by omega)
    rw [List.range'_succ]
    simp only [Op.eqItems, Sem.run_bind, p1, q1, hr, Result.andThen_ok]
    rw [List.drop_eq_getElem_cons hjx, List.drop_eq_getElem_cons hjy, List.zip_cons_cons, List.all_cons]
    cases u.eq xs[j] ys[j] with
    | true => simpa using hrec
    | false => simp
theorem eqT_ok : ∀ (m : Nat) (u : U) (t : Nat), eqT P m u t = true → ∀ k, EqOk P W I I' (k + m) u t
  | 0, _, _, h, _ => by simp [eqT] at h
  | m + 1, .int k, t, h, d => by
    intro x y xs ys X Y hx hy vx vy
    simp only [eqT] at h
    simp only [RelD] at hx hy
    subst hx hy
    have ex := isVal_one vx rfl
    have ey := isVal_one vy rfl
    subst ex ey
    exact run_equalIn_int W (d + m) t k k x y (isInt_ok h)
  | m + 1, .bool, t, h, d => by
    intro x y xs ys X Y hx hy vx vy
    simp only [eqT] at h
    simp only [RelD] at hx hy
    subst hx hy
    have ex := isVal_one vx rfl
    have ey := isVal_one vy rfl
    subst ex ey
    exact run_equalIn_bool' W (d + m) t x y (isBool_ok h)
  | m + 1, .sl _, t, h, d => by simp [eqT] at h
  | m + 1, .nil, t, h, d => by
    intro x y xs ys X Y hx hy vx vy
    simp only [eqT] at h
    split at h
    · rename_i fs hfs
      simp only [Bool.and_eq_true, Bool.not_eq_true'] at h
      have hu := structOf_ok hfs
      have vx : X = .agg xs.toArray := vx
      have vy : Y = .agg ys.toArray := vy
      subst vx vy
      have hf : P.fieldsOf t = fs := by simp [Program.fieldsOf, hu]
      show (Op.equalIn ((d + m) + 1) t _ _).run P W = _
      rw [run_equalIn_struct W (d + m) t _ _ (by rw [hf]; exact hu) h.1, hf]
      exact eqF_ok (fun u t ht => eqT_ok m u t ht d) h.2 x y _ _ xs ys hx hy (by simp) (by simp)
    · cases h
  | m + 1, .cons a b, t, h, d => by
    intro x y xs ys X Y hx hy vx vy
    simp only [eqT] at h
    split at h
    · rename_i fs hfs
      simp only [Bool.and_eq_true, Bool.not_eq_true'] at h
      have hu := structOf_ok hfs
      have vx : X = .agg xs.toArray := vx
      have vy : Y = .agg ys.toArray := vy
      subst vx vy
      have hf : P.fieldsOf t = fs := by simp [Program.fieldsOf, hu]
      show (Op.equalIn ((d + m) + 1) t _ _).run P W = _
      rw [run_equalIn_struct W (d + m) t _ _ (by rw [hf]; exact hu) h.1, hf]
      exact eqF_ok (fun u t ht => eqT_ok m u t ht d) h.2 x y _ _ xs ys hx hy (by simp) (by simp)
    · cases h
  | m + 1, .arr n u, t, h, d => by
    intro x y xs ys X Y hx hy vx vy
    simp only [eqT] at h
    split at h
    · rename_i n' e harr
      simp only [Bool.and_eq_true, decide_eq_true_eq] at h
      obtain ⟨⟨⟨h1, h2⟩, h3⟩, h4⟩ := h
      have h1 := nat_beq h1
      subst h1
      have hu := arrOf_ok harr
      have vx : X = .agg xs.toArray := vx
      have vy : Y = .agg ys.toArray := vy
      subst vx vy
      have hs := sizeOf_ok h3
      obtain ⟨i, hi, hsz⟩ := hs
      show (Op.equalIn ((d + m) + 1) t _ _).run P W = _
      rw [run_equalIn_array W (d + m) _ _ hu hi]
      have hc : P.cellsOf e = u.size := by simp [Program.cellsOf, hi, hsz]
      rw [hc, List.range_eq_range']
      have := eqItems_ok (P := P) (XS := xs.toArray) (YS := ys.toArray) (eqT_ok m u e h4 d) (aggOf_ok h2) ⟨i, hi, hsz⟩ (by simpa using hx) (by simpa using hy) n 0 (by omega)
      simpa [U.eq] using this
    · cases h
end

theorem map_mem {α β : Type} {f g : α → β} : ∀ {l : List α}, l.map f = l.map g → ∀ x ∈ l, f x = g x := by
  intro l h x hx
  exact (List.map_inj_left.1 h) x hx

theorem teOk_of {l : TL} (h : teChk P l = true) (hz : l.tyL.map (fun p => zeroOf P p.1) = l.tyL.map (fun p => some (zcells p.2))) (he : l.elL.map (fun p => (sliceOf P p.1).bind (zeroOf P)) = l.elL.map (fun p => some (zcells p.2)))
    (ha : l.arL.map (fun p => (arrOf P p.1).bind (fun q => zeroOf P q.2)) = l.arL.map (fun p => some (zcells p.2.2))) : TEok P l.te := by
  unfold teChk at h
  simp only [Bool.and_eq_true, List.all_eq_true] at h
  obtain ⟨⟨⟨⟨⟨⟨⟨h1, h2⟩, h3⟩, h4⟩, h5⟩, h6⟩, h7⟩, h8⟩ := h
  have zero : ∀ {t : Nat} {cs : List Value}, zeroOf P t = some cs → ∃ i z, P.info? t = some i ∧ i.zero = some z ∧ z.cells.toList = cs := by
    intro t cs h
    unfold zeroOf at h
    obtain ⟨z, g1, g2⟩ := Option.map_eq_some_iff.1 h
    obtain ⟨i, g3, g4⟩ := Option.bind_eq_some_iff.1 g1
    exact ⟨i, z, g3, g4, g2⟩
  refine ⟨h1, fun t ht => ?_, fun t n g ht => ?_, fun t u ht => ?_, fun t ht => ?_, fun t k ht => ?_, fun t u ht => ?_, fun t n u ht => ?_, fun t f o ht => ?_, fun t a b ht => ?_, fun t ht => ?_, fun t u ht hok hag => ?_⟩
  · exact isStr_ok (h7 t (by simpa [TL.te] using ht))
  · have := h3 _ (look1_mem ht)
    simp only [szChk, Bool.and_eq_true, decide_eq_true_eq, Bool.or_eq_true] at this
    obtain ⟨⟨g1, g2⟩, g3⟩ := this
    exact ⟨⟨sizeOf_ok g2, aggOf_ok g1⟩, fun hg => by rcases g3 with g3 | g3; · rw [hg] at g3; cases g3
                                                     · exact nat_beq g3⟩
  · exact zero (map_mem hz _ (look1_mem ht))
  · exact isBool_ok (h2 _ (look1_mem ht))
  · exact isInt_ok (h2 _ (look1_mem ht))
  · have g := h4 _ (look1_mem ht)
    have gz := map_mem he _ (look1_mem ht)
    simp only [elChk] at g
    split at g
    · rename_i e hsl
      simp only [Bool.and_eq_true, decide_eq_true_eq] at g
      obtain ⟨⟨g1, g2⟩, g3⟩ := g
      simp only [hsl, Option.bind_some] at gz
      obtain ⟨i, z, z1, z2, z3⟩ := zero gz
      obtain ⟨i2, e1, e2⟩ := sizeOf_ok g2
      rw [z1] at e1
      injection e1 with e1
      subst e1
      have e3 : i.bytes = (look1 l.ebL t).getD 0 := by simpa [bytesOf?, z1] using g3
      exact ⟨e, sliceOf_ok hsl, aggOf_ok g1, i, z, z1, e2, e3, z2, z3⟩
    · cases g
  · have g := h5 _ (look1_mem ht)
    have gz := map_mem ha _ (look1_mem ht)
    simp only [arChk] at g
    split at g
    · rename_i n' e hsl
      simp only [Bool.and_eq_true, decide_eq_true_eq] at g
      obtain ⟨⟨g0, g1⟩, g2⟩ := g
      have g0 := nat_beq g0
      subst g0
      simp only [hsl, Option.bind_some] at gz
      obtain ⟨i, z, z1, z2, z3⟩ := zero gz
      obtain ⟨i2, e1, e2⟩ := sizeOf_ok g2
      rw [z1] at e1
      injection e1 with e1
      subst e1
      exact ⟨e, i.bytes, arrOf_ok hsl, aggOf_ok g1, i, z, z1, e2, rfl, z2, z3⟩
    · cases g
  · have g := h6 _ (look2_mem ht)
    simp only [foChk] at g
    split at g
    · rename_i fs hfs
      split at g
      · rename_i fd hfd
        simp only [Bool.and_eq_true] at g
        obtain ⟨g1, g2⟩ := g
        split at g2
        · rename_i n hn
          obtain ⟨i, e1, e2⟩ := sizeOf_ok hn
          refine ⟨fs, fd, structOf_ok hfs, hfd, nat_beq g1, i, e1, ?_⟩
          rintro e
          rw [e2] at e
          subst e
          cases g2
        · cases g2
      · cases g
    · cases g
  · have g := h2 _ (look1_mem ht)
    simp only [tyChk] at g
    split at g
    · rename_i fs hfs
      split at g
      · rename_i pl hpl
        have g : pl = fldL (.cons a b) 0 := of_decide_eq_true g
        refine ⟨fs, pl, structOf_ok hfs, hpl, fun f o ho => ?_⟩
        obtain ⟨v, v1, v2⟩ := off_fldL (p := 0) ho
        refine ⟨v, v1, ?_⟩
        rw [g]
        simpa using v2
      · cases g
    · cases g
  · have g := h2 _ (look1_mem ht)
    simp only [tyChk] at g
    split at g
    · rename_i fs hfs
      obtain ⟨pl, hpl⟩ := Option.isSome_iff_exists.1 g
      exact ⟨fs, pl, structOf_ok hfs, hpl⟩
    · cases g
  · have g := h8 _ (look1_mem ht)
    simp only [eqChk, hok, hag, Bool.and_true, Bool.not_true, Bool.false_or, Bool.and_eq_true, Bool.not_eq_true'] at g
    refine ⟨g.1, fun W I I' x y xs ys hx hy => ?_⟩
    have := eqT_ok (P := P) (W := W) (I := I) (I' := I') 20 u t g.2 9980 x y xs ys (.agg xs.toArray) (.agg ys.toArray) hx hy (by rw [hag]; rfl) (by rw [hag]; rfl)
    simpa using this
end
end Go.Proofs.YtdfhopakojmjkaaDoor.Den
