/- From a law's summary to its row: what comes in is read as data. -/
import Derived.Test.YtdokfjkihjkcmaaGreatDoorDenTe
import Derived.ProofKit
import Derived.LaidMore
import Derived.OpenShut
import Derived.Stop.Joined
namespace Go.Proofs.YtdokfjkihjkcmaaGreatDoor.Den
open Go Go.RowKit Go.ChangeShapes Go.WideShapes
set_option linter.unusedVariables false
set_option linter.unusedSectionVars false

/-- What is known of data that came in: numbers are of their kind, rows aren't too long. -/
def Good : (u : U) → u.T → Prop
  | .int k, n => k.min ≤ n ∧ n ≤ k.max
  | .bool, _ => True
  | .fn, _ => True
  | .sl u, xs => xs.length ≤ 9223372036854775807 ∧ ∀ x ∈ xs, Good u x
  | .arr n u, xs => xs.length = n ∧ ∀ x ∈ xs, Good u x
  | .nil, _ => True
  | .cons a b, x => Good a x.1 ∧ Good b x.2

section
variable (P : Program)
def cdF (cdT : U → Nat → Bool) : U → List Field → Nat → Bool
  | .cons a b, f :: fs, o => Nat.beq f.offset o && decide (sizeOf? P f.type = some a.size) && cdT a f.type && cdF cdT b fs (o + a.size)
  | .nil, [], _ => true
  | _, _, _ => false
/-- Is a type of that code? -/
def cdT : Nat → U → Nat → Bool
  | 0, _, _ => false
  | _ + 1, .int k, t => isInt P k t
  | _ + 1, .bool, t => isBool P t
  | _ + 1, .fn, _ => false
  | d + 1, .sl u, t => match sliceOf P t with
    | some e => decide (sizeOf? P e = some u.size) && Nat.blt 0 u.size && cdT d u e
    | none => false
  | d + 1, .arr n u, t => match arrOf P t with
    | some (m, e) => Nat.beq n m && decide (sizeOf? P e = some u.size) && decide (sizeOf? P t = some (n * u.size)) && cdT d u e
    | none => false
  | d + 1, .nil, t => match structOf P t with
    | some fs => decide (sizeOf? P t = some 0) && cdF P (cdT d) .nil fs.toList 0
    | none => false
  | d + 1, .cons a b, t => match structOf P t with
    | some fs => decide (sizeOf? P t = some (a.size + b.size)) && cdF P (cdT d) (.cons a b) fs.toList 0
    | none => false
def argsChk : U → List Nat → Bool
  | .cons a b, t :: ts => cdT P 20 a t && argsChk b ts
  | .nil, [] => true
  | _, _ => false
variable {P}
theorem cellsOf_of {t n : Nat} (h : sizeOf? P t = some n) : P.cellsOf t = n := by
  obtain ⟨i, h1, h2⟩ := sizeOf_ok h
  simp [Program.cellsOf, h1, h2]

theorem list_of {α : Type} {p : Nat → α → Prop} : ∀ (n : Nat), (∀ i, i < n → ∃ x, p i x) → ∃ l : List α, l.length = n ∧ ∀ (i : Nat) (x : α), l[i]? = some x → p i x
  | 0, _ => ⟨[], rfl, fun i x h => by simp at h⟩
  | n + 1, h => by
    obtain ⟨l, h1, h2⟩ := list_of n (fun i hi => h i (Nat.lt_succ_of_lt hi))
    obtain ⟨x, hx⟩ := h n (Nat.lt_succ_self n)
    refine ⟨l ++ [x], by simp [h1], fun i y hi => ?_⟩
    by_cases hil : i < n
    · rw [List.getElem?_append_left (by omega)] at hi
      exact h2 i y hi
    · rw [List.getElem?_append_right (by omega), h1] at hi
      have : i - n = 0 := by
        rcases Nat.eq_zero_or_pos (i - n) with h | h
        · exact h
        · rw [List.getElem?_eq_none (by simp; omega)] at hi; cases hi
      rw [this] at hi
      simp at hi
      subst hi
      have : i = n := by omega
      subst this
      exact hx

section
variable {H : Type} {enc : TypeId × Value → H} {W : World} {sp : Nat → Bool}
abbrev Old (W : World) : Nat → Prop := fun b => b < W.heap.size
def Rd (enc : TypeId × Value → H) (P : Program) (W : World) (sp : Nat → Bool) (u : U) (t : Nat) : Prop := ∀ (fuel : Nat) (cs : List Value) (x : DataW H × List MemPlace), DataW.trod enc P W 0 sp true fuel t cs = some x → ∃ y : u.T, RelD W (Old W) u y cs ∧ Good u y
theorem cdF_ok {c : U → Nat → Bool} (ih : ∀ u t, c u t = true → Rd enc P W sp u t) : ∀ {u : U} {fs : List Field} {o : Nat}, cdF P c u fs o = true → ∀ (n : Nat) (cs : List Value), (cs.drop o).length = u.size → (∀ f ∈ fs, ∃ x, DataW.trod enc P W 0 sp true n f.type ((cs.drop f.offset).take (P.cellsOf f.type)) = some x) →
    ∃ y : u.T, RelD W (Old W) u y (cs.drop o) ∧ Good u y
  | .cons a b, f :: fs, o, h, n, cs, hl, hf => by
    simp only [cdF, Bool.and_eq_true, decide_eq_true_eq] at h
    obtain ⟨⟨⟨h1, h2⟩, h3⟩, h4⟩ := h
    have h1 := nat_beq h1
    obtain ⟨x, hx⟩ := hf f (by simp)
    rw [h1, cellsOf_of h2] at hx
    obtain ⟨y1, g1, g2⟩ := ih a f.type h3 n _ x hx
    have hl : cs.length - o = a.size + b.size := by simpa [U.size] using hl
    obtain ⟨y2, k1, k2⟩ := cdF_ok ih h4 n cs (by simp; omega) (fun f hf' => hf f (by simp [hf']))
    refine ⟨(y1, y2), ⟨_, _, ?_, g1, k1⟩, g2, k2⟩
    rw [← List.drop_drop, List.take_append_drop]
  | .nil, [], o, h, n, cs, hl, hf => ⟨(), List.eq_nil_of_length_eq_zero (by simpa [U.size] using hl), trivial⟩
  | .nil, _ :: _, _, h, _, _, _, _ => by simp [cdF] at h
  | .cons _ _, [], _, h, _, _, _, _ => by simp [cdF] at h
  | .int _, _, _, h, _, _, _, _ => by simp [cdF] at h
  | .bool, _, _, h, _, _, _, _ => by simp [cdF] at h
  | .fn, _, _, h, _, _, _, _ => by simp [cdF] at h
  | .sl _, _, _, h, _, _, _, _ => by simp [cdF] at h
  | .arr _ _, _, _, h, _, _, _, _ => by simp [cdF] at h

theorem struct_rd {c : U → Nat → Bool} (ih : ∀ u t, c u t = true → Rd enc P W sp u t) {u : U} {t : Nat} {fs : Array Field} (hu : P.underlying t = some (.struct fs)) (hs : sizeOf? P t = some u.size) (hc : cdF P c u fs.toList 0 = true) : Rd enc P W sp u t := by
  intro fuel cs x h
  obtain ⟨xs, n, _, _, hl, hxs, hel⟩ := DataW.trod_struct hu h
  rw [cellsOf_of hs] at hl
  have := cdF_ok ih hc n cs (by simpa using hl) (fun f hf => by
    obtain ⟨i, hi⟩ := List.mem_iff_getElem?.1 hf
    have hi' : fs[i]? = some f := by simpa using hi
    have hlt : i < xs.length := by
      rw [hxs]
      exact (Array.getElem?_eq_some_iff.1 hi').1
    exact ⟨xs[i], by rw [hel i f hi', List.getElem?_eq_getElem hlt]⟩)
  simpa using this

theorem cells_get {base n : Nat} {a : Addr} {cs : List Value} (h : W.cells? base a n = some cs) : cs.length = n ∧ ∀ (j : Nat) (v : Value), cs[j]? = some v → W.cell? (a.add j) = some v := by
  obtain ⟨h1, h2, h3⟩ := World.cells?_some h
  refine ⟨h2, fun j v hj => ?_⟩
  have hjn : j < n := by
    have := (List.getElem?_eq_some_iff.1 hj).1
    omega
  rw [h3 j hjn]
  exact hj

theorem cdT_ok : ∀ (m : Nat) (u : U) (t : Nat), cdT P m u t = true → Rd enc P W sp u t
  | 0, _, _, h => by simp [cdT] at h
  | m + 1, .int k, t, h => by
    intro fuel cs x hx
    simp only [cdT] at h
    obtain ⟨n, rfl, _, hw⟩ := DataW.trod_int (isInt_ok h) hx
    simp only [Lit.wf, Bool.and_eq_true, decide_eq_true_eq] at hw
    exact ⟨n, rfl, hw⟩
  | m + 1, .fn, t, h => by simp [cdT] at h
  | m + 1, .bool, t, h => by
    intro fuel cs x hx
    simp only [cdT] at h
    obtain ⟨b, rfl, _⟩ := DataW.trod_bool (isBool_ok h) hx
    exact ⟨b, rfl, trivial⟩
  | m + 1, .nil, t, h => by
    simp only [cdT] at h
    split at h
    · rename_i fs hfs
      simp only [Bool.and_eq_true, decide_eq_true_eq] at h
      exact struct_rd (fun u t ht => cdT_ok m u t ht) (structOf_ok hfs) h.1 h.2
    · cases h
  | m + 1, .cons a b, t, h => by
    simp only [cdT] at h
    split at h
    · rename_i fs hfs
      simp only [Bool.and_eq_true, decide_eq_true_eq] at h
      exact struct_rd (fun u t ht => cdT_ok m u t ht) (structOf_ok hfs) h.1 h.2
    · cases h
  | m + 1, .arr n u, t, h => by
    simp only [cdT] at h
    split at h
    · rename_i n' e ha
      simp only [Bool.and_eq_true, decide_eq_true_eq] at h
      obtain ⟨⟨⟨h1, h2⟩, h3⟩, h4⟩ := h
      have h1 := nat_beq h1
      subst h1
      intro fuel cs x hx
      obtain ⟨xs, q, _, _, hl, hxs, hel⟩ := DataW.trod_array (arrOf_ok ha) hx
      rw [cellsOf_of h3] at hl
      obtain ⟨ys, y1, y2⟩ := list_of (p := fun i (y : u.T) => RelD W (Old W) u y ((cs.drop (i * u.size)).take u.size) ∧ Good u y) n (fun i hi => by
        have := hel i hi
        rw [cellsOf_of h2, List.getElem?_eq_getElem (by omega)] at this
        exact cdT_ok m u e h4 q _ _ this)
      exact ⟨ys, ⟨y1, hl, fun i y hi => (y2 i y hi).1⟩, y1, fun y hy => by
        obtain ⟨i, hi⟩ := List.mem_iff_getElem?.1 hy
        exact (y2 i y hi).2⟩
    · cases h
  | m + 1, .sl u, t, h => by
    simp only [cdT] at h
    split at h
    · rename_i e he
      simp only [Bool.and_eq_true, decide_eq_true_eq] at h
      obtain ⟨⟨h1, h2⟩, h3⟩ := h
      have h2 : 0 < u.size := by simpa [Nat.blt_eq] using h2
      intro fuel cs x hx
      rcases DataW.trod_slice (sliceOf_ok he) hx with ⟨rfl, _⟩ | ⟨a, len, cap, elems, rest, q, _, rfl, _, _, hlc, hcm, hlen, hel, _⟩
      · exact ⟨[], ⟨_, rfl, none, 0, rfl, Nat.le_refl _, fun i x hi => by simp at hi⟩, by simp [Good]⟩
      · rw [cellsOf_of h1] at hel
        obtain ⟨ys, y1, y2⟩ := list_of (p := fun i (y : u.T) => (∃ c, a.block < W.heap.size ∧ RelD W (Old W) u y c ∧ c.length = u.size ∧ ∀ (j : Nat) (v : Value), c[j]? = some v → W.cell? (a.add (i * u.size + j)) = some v) ∧ Good u y) len (fun i hi => by
          have := hel i hi
          rw [List.getElem?_eq_getElem (by omega)] at this
          obtain ⟨c, c1, c2⟩ := Option.bind_eq_some_iff.1 this
          obtain ⟨y, g1, g2⟩ := cdT_ok m u e h3 q _ _ c2
          obtain ⟨k1, k2⟩ := cells_get c1
          have hb := World.cells?_block c1 h2
          rw [add_block] at hb
          exact ⟨y, ⟨c, hb, g1, k1, fun j v hj => by rw [← Addr.add_add]; exact k2 j v hj⟩, g2⟩)
        refine ⟨ys, ⟨_, rfl, some a, cap, by rw [y1], by rw [y1]; exact hlc, fun i y hi => ?_⟩, ?_, fun y hy => ?_⟩
        · obtain ⟨⟨c, g1, g2, g3, g4⟩, _⟩ := y2 i y hi
          exact ⟨a, c, rfl, g1, g2, g3, g4⟩
        · rw [y1]
          have : maxLen = 9223372036854775807 := rfl
          omega
        · obtain ⟨i, hi⟩ := List.mem_iff_getElem?.1 hy
          exact (y2 i y hi).2
    · cases h

theorem val_of {m : Nat} {u : U} {t : Nat} (h : cdT P m u t = true) {r : Reach} {base : Nat} {v : Value} (hv : Value.okWide P W r base t v) : IsVal u.agg v.cells.toList v := by
  cases m with
  | zero => simp [cdT] at h
  | succ m =>
    cases u with
    | int k =>
      simp only [cdT] at h
      obtain ⟨n, rfl⟩ := okWide_int (isInt_ok h) hv
      rfl
    | fn => simp [cdT] at h
    | bool =>
      simp only [cdT] at h
      have hu := isBool_ok h
      unfold Value.okWide at hv
      rw [hu] at hv
      simp only [Cell.okWide, Cell.ok, hu] at hv
      cases v <;> simp at hv
      rfl
    | sl u =>
      simp only [cdT] at h
      split at h
      · rename_i e he
        have hu := sliceOf_ok he
        unfold Value.okWide at hv
        rw [hu] at hv
        simp only [Cell.okWide, Cell.ok, hu] at hv
        cases v <;> simp at hv
        rfl
      · cases h
    | arr n u =>
      simp only [cdT] at h
      split at h
      · rename_i n' e he
        have hu := arrOf_ok he
        unfold Value.okWide at hv
        rw [hu] at hv
        obtain ⟨cs, rfl, _⟩ := hv
        simp [IsVal, U.agg, Value.cells]
      · cases h
    | nil =>
      simp only [cdT] at h
      split at h
      · rename_i fs he
        have hu := structOf_ok he
        unfold Value.okWide at hv
        rw [hu] at hv
        obtain ⟨cs, rfl, _⟩ := hv
        simp [IsVal, U.agg, Value.cells]
      · cases h
    | cons a b =>
      simp only [cdT] at h
      split at h
      · rename_i fs he
        have hu := structOf_ok he
        unfold Value.okWide at hv
        rw [hu] at hv
        obtain ⟨cs, rfl, _⟩ := hv
        simp [IsVal, U.agg, Value.cells]
      · cases h

theorem args_of {r : Reach} {base : Nat} : ∀ {a : U} {ts : List Nat} {vs : List Value} {ds : List (DataW H)} {p : List MemPlace}, argsChk P a ts = true → DataW.TrodAll enc P W 0 sp true ts vs ds p → (∀ (j : Nat) t v, ts[j]? = some t → vs[j]? = some v → Value.okWide P W r base t v) →
    ∃ x : a.T, RelArgs W (Old W) a x vs ∧ Good a x ∧ ds.length = ts.length
  | .cons a b, t :: ts, v :: vs, d :: ds, p, hc, ht, hv => by
    simp only [argsChk, Bool.and_eq_true] at hc
    obtain ⟨p1, p2, ⟨fuel, h1⟩, h2, _⟩ := ht
    obtain ⟨x, x1, x2⟩ := cdT_ok 20 a t hc.1 fuel _ _ h1
    obtain ⟨y, y1, y2, y3⟩ := args_of hc.2 h2 (fun j t v hj hv' => hv (j + 1) t v (by simpa using hj) (by simpa using hv'))
    exact ⟨(x, y), ⟨v, vs, _, rfl, x1, val_of hc.1 (hv 0 t v rfl rfl), y1⟩, ⟨x2, y2⟩, by simp [y3]⟩
  | .nil, [], vs, ds, p, hc, ht, hv => by
    cases vs with
    | nil =>
      cases ds with
      | nil => exact ⟨(), rfl, trivial, rfl⟩
      | cons => exact ht.elim
    | cons => cases ds <;> exact ht.elim
  | .cons _ _, t :: ts, [], ds, _, _, ht, _ => by cases ds <;> exact ht.elim
  | .cons _ _, t :: ts, v :: vs, [], _, _, ht, _ => ht.elim
  | .cons _ _, [], _, _, _, hc, _, _ => by simp [argsChk] at hc
  | .nil, _ :: _, _, _, _, hc, _, _ => by simp [argsChk] at hc
  | .int _, _, _, _, _, hc, _, _ => by simp [argsChk] at hc
  | .bool, _, _, _, _, hc, _, _ => by simp [argsChk] at hc
  | .fn, _, _, _, _, hc, _, _ => by simp [argsChk] at hc
  | .sl _, _, _, _, _, hc, _, _ => by simp [argsChk] at hc
  | .arr _ _, _, _, _, _, hc, _, _ => by simp [argsChk] at hc

theorem args_stay (hl : laidOutB P = true) {W' : World} (hb : Below W.heap.size W W') : ∀ {ts : List Nat} {vs : List Value} {ds : List (DataW H)} {p : List MemPlace}, (ts.all fun t => P.readableRec t && decide (t < P.types.size)) = true → DataW.TrodAll enc P W 0 (fun _ => true) true ts vs ds p → (∀ x ∈ p, x.block < W.heap.size) →
    DataW.TrodAll enc P W' 0 (fun b => decide (b < W.heap.size)) true ts vs ds p
  | [], [], [], p, _, h, _ => h
  | t :: ts, v :: vs, d :: ds, p, hc, h, hlt => by
    obtain ⟨p1, p2, h1, h2, rfl⟩ := h
    simp only [List.all_cons, Bool.and_eq_true, decide_eq_true_eq] at hc
    exact ⟨p1, p2, Below.trod hl hc.1.1 hc.1.2 h1 hb (fun x hx => hlt x (by simp [hx])), args_stay hl hb (by simpa using hc.2) h2 (fun x hx => hlt x (by simp [hx])), rfl⟩
  | [], [], _ :: _, _, _, h, _ => h.elim
  | [], _ :: _, ds, _, _, h, _ => by cases ds <;> exact h.elim
  | _ :: _, [], ds, _, _, h, _ => by cases ds <;> exact h.elim
  | _ :: _, _ :: _, [], _, _, h, _ => h.elim

theorem contract_of {f : FuncId} {fn : Func} (hl : laidOutB P = true) {s : ChangeSpec} (hvars : s.vars = []) (hs : ∀ ds : List (DataW H), ds.length = fn.params.size → s.fn H ds = { results := [.lit (.bool true)], args := ds }) {a : U} {F : a.T → Option (RU.cons (.d .bool) .nil).T}
    (hS : SemOf P f ⟨a, .cons (.d .bool) .nil, F⟩) (hcd : argsChk P a fn.params.toList = true) {tb : Nat} (hres : fn.resultTypes = #[tb]) (htb : isBool P tb = true) (hread : (fn.params.toList.all fun t => P.readableRec t && decide (t < P.types.size)) = true)
    (hF : ∀ x, Good a x → F x = some (true, ())) {base : Nat} {args : Array Value} {ds gs : List (DataW H)} {before : List MemPlace} (hval : ∀ (j : Nat) t v, fn.params[j]? = some t → args[j]? = some v → Value.okWide P W .any base t v)
    (hW : DataW.Whole enc P fn.params.toList s.vars false W args.toList ds gs before) (hG : GlobW W (Old W)) :
    Calls P f args W fun e W' => ∃ v, e = .returned v ∧ s.post enc P fn false true false false W args v W' := by
  have hW' := hW
  obtain ⟨p, q, hA, hV, rfl, hfz, _⟩ := hW
  have hvs : gs = [] ∧ q = [] := by
    rw [hvars] at hV
    cases gs with
    | nil => exact ⟨rfl, hV⟩
    | cons g r => exact hV.elim
  obtain ⟨rfl, rfl⟩ := hvs
  obtain ⟨x, x1, x2, x3⟩ := args_of hcd hA (fun j t v hj hv => hval j t v (by simpa using hj) (by simpa using hv))
  have hc := hS.calls W (Old W) (fun b hb => hb) hG x args.toList (true, ()) x1 (hF x x2)
  simp only [Array.toArray_toList] at hc
  refine hc.mono ?_
  rintro e W' ⟨l, bs, I', rfl, hb, _, hrs, _⟩
  obtain ⟨v, r, cs, b1, b2, rfl, rfl, ⟨hv, rfl⟩, hval', hnil, rfl⟩ := hrs
  subst hnil
  have hv : cs = [.bool true] := hv
  subst hv
  have hval' : ([.bool true] : List Value) = [v] := hval'
  injection hval' with hval' _
  subst hval'
  have hlt : ∀ x ∈ p, x.block < W.heap.size := fun x hx => hW'.lt x (by simp [hx])
  have hsz : fn.params.size = ds.length := by rw [x3]; simp
  have hspec := hs ds hsz.symm
  refine ⟨.bool true, rfl, ds, [], p ++ [], [], p, [], hW', ?_, ?_, ?_, hb.frame _, fun h => by cases h⟩
  · rw [List.append_nil, hspec, hres]
    exact trodAll_mk1 (shut_bool (isBool_ok htb) true)
  · rw [List.append_nil, hspec]
    exact args_stay hl hb hread hA hlt
  · rw [List.append_nil, hspec, hvars]
    rfl
end
end

/-! ### package-level arrays -/
theorem globW_of {W : World} (h : ∀ g k l, globsA g = some (k, l) → g < W.heap.size ∧ ∀ (j : Nat) (v : Int), l[j]? = some v → W.cell? ((⟨g, 0, none⟩ : Addr).add j) = some (.int k v)) : GlobW W (Old W) := by
  intro g u x hg
  unfold globs at hg
  split at hg
  · rename_i k l hl
    injection hg with hg
    obtain ⟨h1, h2⟩ := h g k l hl
    cases hg
    refine ⟨h1, l.map (.int k), ⟨rfl, by simp [U.size], fun i x hi => ?_⟩, fun j w hj => ?_⟩
    · simp only [RelD, U.size, Nat.mul_one]
      have hi : l[i]? = some x := hi
      rw [← List.map_drop, ← List.map_take]
      have : (l.drop i).take 1 = [x] := by
        apply List.ext_getElem?
        intro q
        rw [List.getElem?_take, List.getElem?_drop]
        cases q with
        | zero => simp [hi]
        | succ q => simp
      rw [this]
      rfl
    · rw [List.getElem?_map] at hj
      cases hl' : l[j]? with
      | none => rw [hl'] at hj; cases hj
      | some v =>
        rw [hl'] at hj
        injection hj with hj
        subst hj
        exact h2 j v hl'
  · cases hg
theorem cell_lt {W : World} {a : Addr} {v : Value} (h : W.cell? a = some v) : a.block < W.heap.size := by
  unfold World.cell? at h
  cases e : W.heap[a.block]? with
  | none => simp [e] at h
  | some o => exact heap_lt e
theorem laid_cells {P : Program} {W : World} {n : String} {g t e fuel : Nat} {cs : Array Value} {k : IntKind} {l : List Int} {p : List MemPlace} (hg : P.globalNamed n = some g) (hv : W.var? P n = some cs) (ht : P.underlying t = some (.array l.length e)) (he : P.underlying e = some (.int k)) (hc : P.cellsOf e = 1)
    (hd : DataW.trod (fun _ => ()) P W 0 (fun _ => true) false fuel t cs.toList = some (.agg (l.map fun v => .lit (.int k v)), p)) (h0 : 0 < l.length) :
    g < W.heap.size ∧ ∀ (j : Nat) (v : Int), l[j]? = some v → W.cell? ((⟨g, 0, none⟩ : Addr).add j) = some (.int k v) := by
  obtain ⟨xs, m, _, hx, _, hlen, hel⟩ := DataW.trod_array ht hd
  have key : ∀ (j : Nat) (v : Int), l[j]? = some v → cs[j]? = some (.int k v) := by
    intro j v hj
    have hjl : j < l.length := (List.getElem?_eq_some_iff.1 hj).1
    have h1 := hel j hjl
    rw [hc, Nat.mul_one, List.getElem?_eq_getElem (by omega)] at h1
    obtain ⟨w, e1, e2, _⟩ := DataW.trod_int he h1
    simp only [Prod.mk.injEq, DataW.agg.injEq] at hx
    have h2 := congrArg (fun q => q[j]?) hx.1
    simp only [List.getElem?_map, hj, Option.map_some, List.getElem?_eq_getElem (show j < xs.length by omega), e2] at h2
    injection h2 with h2
    injection h2 with h2
    injection h2 with _ h2
    subst h2
    have h3 := congrArg (fun q => q[0]?) e1
    simp only [List.getElem?_take, List.getElem?_drop] at h3
    simpa using h3
  refine ⟨?_, fun j v hj => ?_⟩
  · have := World.var?_cell hg hv 0
    rw [key 0 l[0] (List.getElem?_eq_getElem h0)] at this
    exact cell_lt this
  · rw [addr_add, Nat.zero_add]
    rw [World.var?_cell hg hv j]
    exact key j v hj
end Go.Proofs.YtdokfjkihjkcmaaGreatDoor.Den
