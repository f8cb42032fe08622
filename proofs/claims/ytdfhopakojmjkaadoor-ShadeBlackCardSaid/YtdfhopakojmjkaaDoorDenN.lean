/- Each operation that isn't a call, joined. -/
import Derived.Test.YtdfhopakojmjkaaDoorDenM
namespace Go.Proofs.YtdfhopakojmjkaaDoor.Den
open Go Go.RowKit
set_option linter.unusedVariables false
set_option linter.unusedSectionVars false

theorem OpOk.ofVal {P : Program} {B : Nat} {s : S4} {key : Nat} {m : Sem Value} {v : V} {H' : HF} (h : ValOk B s key (m.run P s.W) v H') : OpOk B s key ((do pure (.value (← m)) : Sem Next).run P s.W) v H' := by
  obtain ⟨t, h1, h2, h3, h4, x, h5, h6⟩ := h
  refine ⟨t, h1, h2, h3, h4, .inl ⟨x, ?_, h6⟩⟩
  simp [h5]
theorem OpOk.ofVal0 {P : Program} {B : Nat} {s : S4} (h : MemOk B s) {key : Nat} {m : Sem Value} {v : V} {H' : HF} (hv : H' = s.H ∧ ∃ y, m.run P s.W = .ok y s.W ∧ RelV s v y) : OpOk B s key ((do pure (.value (← m)) : Sem Next).run P s.W) v H' := by
  obtain ⟨rfl, y, h1, h2⟩ := hv
  exact .ofVal (ValOk.same h h1 h2)
theorem valOk_key {B : Nat} {s t : S4} {key : Nat} {run : Result Value} {v : V} {H' : HF} (a1 : t.H = H') (a2 : MemOk B t) (a3 : Ext B s t) (a4 : ∀ k, t.U k → s.U k ∨ k = key) {x : Value} (a5 : run = .ok x t.W) (a6 : RelV t v x) : ValOk B s key run v H' :=
  ⟨t, a1, a2, a3, fun k hk => (a4 k hk).imp id (fun e => by omega), x, a5, a6⟩

theorem evO_int {s : S4} {T : TF} {a : Act} (hT : TRel s T a.tmps) {x : Operand} {k : IntKind} {n : Int} (h : evO T x = .d (.int k) n) : a.eval x = .int k n := relV_int (h ▸ evO_rel hT x)
theorem evO_bool {s : S4} {T : TF} {a : Act} (hT : TRel s T a.tmps) {x : Operand} {b : Bool} (h : evO T x = .d .bool b) : a.eval x = .bool b := relV_bool (h ▸ evO_rel hT x)
theorem evO_is {s : S4} {T : TF} {a : Act} (hT : TRel s T a.tmps) {x : Operand} {v : V} (h : evO T x = v) : RelV s v (a.eval x) := h ▸ evO_rel hT x

theorem run_zero {P : Program} {t : Nat} {i : TypeInfo} {z : Value} (hi : P.info? t = some i) (hz : i.zero = some z) (W : World) : (zeroValue t).run P W = .ok z W := by
  simp [zeroValue, typeInfo, hi, hz]

section
variable {P : Program} {E : TE} (hE : TEok P E) {B : Nat} {s : S4} (h : MemOk B s) {key : Nat} (hu : ¬ s.U key) (hk : key < s.H.nx) {T : TF} {a : Act} (hT : TRel s T a.tmps)
include hE h hu hk hT

theorem alloc_ok {t : Nat} {v : V} {H' : HF} (hto : (aop E key T s.H (.alloc t)).to v H') : ValOk B s key ((Instr.alloc t true (.tuple #[])).run P s.W) v H' := by
  simp only [aop] at hto
  split at hto
  · rename_i u hut
    obtain ⟨rfl, rfl⟩ := hto
    obtain ⟨i, z, hi, hz, hzc⟩ := hE.zero t u hut
    obtain ⟨t', a1, a2, a3, a4, a5, a6⟩ := newVar_ok h (key := key) hu hk (c := zeroV u) (cs := z.cells) (by rw [hzc]; exact zeroV_rel u) t
    refine valOk_key a1 a2 a3 a4 ?_ a6
    rw [a5]
    simp [Instr.alloc, run_zero hi hz, newVar, newRow]
  · cases hto
theorem box_ok {t : Nat} {x : Operand} {v : V} {H' : HF} (hto : (aop E key T s.H (.box t x)).to v H') : ValOk B s key ((Instr.box t (a.eval x)).run P s.W) v H' := by
  simp only [aop] at hto
  split at hto
  · rename_i hc
    obtain ⟨rfl, rfl⟩ := hto
    obtain ⟨cs, h1, h2⟩ := (evO_rel hT x).get (cell_not hc).1 (cell_not hc).2
    obtain ⟨t', a1, a2, a3, a4, a5, a6⟩ := newVar_ok h (key := key) hu hk (c := evO T x) (cs := (a.eval x).cells) (by rw [isVal_cells h2 h1.one]; exact h1) t
    refine valOk_key a1 a2 a3 a4 ?_ a6
    rw [a5]
    simp [Instr.box, newVar, newRow]
  · cases hto
theorem build_ok {t : Nat} {ps : Array (Nat × Operand)} {v : V} {H' : HF} (hto : (aop E key T s.H (.build t ps)).to v H') : ValOk B s key ((Instr.build t (ps.map fun (i, x) => (i, a.eval x))).run P s.W) v H' := by
  simp only [aop] at hto
  split at hto
  · rename_i p q hut
    split at hto
    · rename_i w hb
      obtain ⟨rfl, rfl⟩ := hto
      obtain ⟨i, z, hi, hz, hzc⟩ := hE.zero t _ hut
      obtain ⟨fs, places, hfs, hpl, hoff⟩ := hE.build t p q hut
      obtain ⟨cells', e1, e2, e3⟩ := buildFs_ok hT hoff ps.toList (zeroV (.cons p q)) w z.cells hb (zeroV_sk _) (by rw [hzc]; exact zeroV_rel _)
      have hbt : P.built t (ps.map fun (i, x) => (i, a.eval x)).toList = some cells' := by
        simp only [Program.built, hi, hfs, hz, hpl, Array.toList_map]
        exact e1
      refine ValOk.same h (run_build s.W t _ _ hbt) (relV_of e3 ?_)
      have : w.agg = true := by unfold V.agg; rw [e2]; rfl
      rw [this]
      simp [IsVal]
    · cases hto
  · rename_i hut
    split at hto
    · rename_i hnil
      obtain ⟨rfl, rfl⟩ := hto
      obtain ⟨i, z, hi, hz, hzc⟩ := hE.zero t _ hut
      obtain ⟨fs, places, hfs, hpl⟩ := hE.unit t hut
      have hbt : P.built t (ps.map fun (i, x) => (i, a.eval x)).toList = some z.cells := by
        simp only [Program.built, hi, hfs, hz, hpl, Array.toList_map, hnil]
        rfl
      refine ValOk.same h (run_build s.W t _ _ hbt) (.inr ⟨[], by simp [RelC], ?_⟩)
      have : z.cells = #[] := by
        apply Array.ext'
        rw [hzc]
        rfl
      rw [this]
      rfl
    · cases hto
  · cases hto
theorem buildSlice_ok {t n : Nat} {ps : Array (Nat × Operand)} {v : V} {H' : HF} (hto : (aop E key T s.H (.buildSlice t n ps)).to v H') : ValOk B s key ((Instr.buildSlice t n (ps.map fun (i, x) => (i, a.eval x))).run P s.W) v H' := by
  simp only [aop] at hto
  split at hto
  · rename_i u hut
    obtain ⟨e, hte, he⟩ := hE.elem t u hut
    obtain ⟨i, z, hi, hsz, hbt, hz, hzc⟩ := he.info
    split at hto
    · rename_i hq
      simp only [Bool.and_eq_true] at hq
      have hroom : n * u.size ≤ 16777216 := by simpa [Nat.ble_eq] using hq.1
      have hpos : 0 < u.size := by simpa [Nat.blt_eq] using hq.2
      split at hto
      · rename_i xs hfill
        obtain ⟨rfl, rfl⟩ := hto
        have hzs : z.cells.size = u.size := by rw [← Array.length_toList, hzc, zcells_len]
        obtain ⟨t1, f1, f2, f3, f4, f5, f6, f7⟩ := freeze_ok (rowsOfs T ps.toList) h
        have hchunks : Chunks s.W t1.I u (List.replicate n u.zero) (madeCells z.cells (n * u.size)) := by
          refine ⟨by simp [size_madeCells], fun q x hq => ?_⟩
          have hqn : q < n := by
            have := (List.getElem?_eq_some_iff.1 hq).1
            simpa using this
          have hx : x = u.zero := by
            obtain ⟨_, hx⟩ := List.getElem?_eq_some_iff.1 hq
            rw [← hx]
            simp
          subst hx
          have := made_chunk z.cells n q hqn (by omega)
          rw [hzs] at this
          rw [this, hzc]
          exact RelD.zero _ _ u
        obtain ⟨cells', e1, e2, e3⟩ := fillV_ok h hT (J := t1.I) (fun b hb => f6.i b hb) ps.toList _ _ _ hfill (fun k r b base hk' hr hp => f7 k hk' r b base hr hp) hchunks
        obtain ⟨t', a1, a2, a3, a4, a5, a6⟩ := newRow_ok f5 (key := key) (by rw [f3]; exact hu) (by rw [f1, freeze_nx]; exact hk) hpos (xs := xs) (cells := cells') e2.1 (fun q x hq => by rw [f2]; exact e2.2 q x hq) e
        refine valOk_key (by rw [a1, f1]) a2 (f6.trans a3) (fun k hk => by rw [← f3]; exact a4 k hk) ?_ a6
        rw [a5, f2]
        have hl : xs.length = n := by rw [e3]; simp
        have hrun : (Instr.fill (fun i_1 => some (i_1 * i.size, i.size)) ((Array.range (n * i.size)).map (z.cells[· % z.cells.size]!)) (ps.toList.map fun (i, x) => (i, a.eval x))) = some cells' := by
          rw [hsz]
          exact e1
        have hs : (sizeOf e).run P s.W = .ok i.size s.W := by simp [sizeOf, typeInfo, hi]
        have hn2 : ¬ (16777216 < n * i.size) := by rw [hsz]; omega
        by_cases hn0 : n * i.size = 0
        · have hm : madeCells #[] (n * i.size) = madeCells z.cells (n * i.size) := by simp [madeCells, hn0]
          unfold madeCells at hm
          rw [← hm] at hrun
          simp [Instr.buildSlice, run_underlying hte, hs, hn0, newRow, hl] at hrun ⊢
          rw [hrun]
          simp
        · simp [Instr.buildSlice, run_underlying hte, hs, hn2, hn0, run_zero hi hz, hrun, newRow, hl]
      · cases hto
    · cases hto
  · cases hto
theorem makeSlice_ok {t : Nat} {l c : Operand} {v : V} {H' : HF} (hto : (aop E key T s.H (.makeSlice t l c)).to v H') : ValOk B s key ((Instr.makeSlice t (a.eval l) (a.eval c)).run P s.W) v H' := by
  simp only [aop] at hto
  split at hto
  · rename_i u hut
    obtain ⟨e, hte, he⟩ := hE.elem t u hut
    obtain ⟨i, z, hi, hsz, hbt, hz, hzc⟩ := he.info
    split at hto
    · rename_i n hn
      split at hto
      · rename_i m hm
        split at hto
        · rename_i hq
          simp only [Bool.and_eq_true] at hq
          have hpos : 0 < u.size := by simpa [Nat.blt_eq] using hq.1
          have hbpos : 0 < E.ebytes t := by simpa [Nat.blt_eq] using hq.2
          rcases hto with ⟨c1, hto⟩ | ⟨_, hto⟩
          case inr => cases hto
          rcases hto with ⟨c2, hto⟩ | ⟨_, hto⟩
          case inr => cases hto
          rcases hto with ⟨c3, hto⟩ | ⟨_, hto⟩
          case inr => cases hto
          obtain ⟨rfl, rfl⟩ := hto
          have c1 : n = m := by simpa using c1
          subst c1
          have c2 := of_decide_eq_true c2
          have c3 := of_decide_eq_true c3
          obtain ⟨kl, hl⟩ := asInt_some hn
          obtain ⟨kc, hc⟩ := asInt_some hm
          have hl := evO_int hT hl
          have hc := evO_int hT hc
          rw [hl, hc]
          obtain ⟨q, rfl⟩ : ∃ q : Nat, n = q := ⟨n.toNat, by omega⟩
          simp only [Int.toNat_natCast] at c3
          have hzs : z.cells.size = u.size := by rw [← Array.length_toList, hzc, zcells_len]
          have hmb : q ≤ maxBytes := Nat.le_trans (Nat.le_mul_of_pos_right q hbpos) c3
          have hrun := run_make (P := P) s.W t e i z hte hi hz kl kc q q (by omega) (by omega) (by rw [hbt, ← Int.natCast_mul, Nat.mul_comm]; unfold maxBytes at c3; omega) (by unfold maxBytes at hmb; omega)
          have hch : ∀ (p : Nat) (x : u.T), (List.replicate (q : Int).toNat u.zero)[p]? = some x → RelD s.W s.I u x (((madeCells z.cells (q * u.size)).toList.drop (p * u.size)).take u.size) := by
            intro p x hp
            have hqn : p < q := by
              have := (List.getElem?_eq_some_iff.1 hp).1
              simpa using this
            have hx : x = u.zero := by
              obtain ⟨_, hx⟩ := List.getElem?_eq_some_iff.1 hp
              rw [← hx]
              simp
            subst hx
            have := made_chunk z.cells q p hqn (by omega)
            rw [hzs] at this
            rw [this, hzc]
            exact RelD.zero _ _ u
          obtain ⟨t', a1, a2, a3, a4, a5, a6⟩ := newRow_ok h (key := key) hu hk hpos (cells := madeCells z.cells (q * u.size)) (by simp [size_madeCells]) hch e
          refine valOk_key a1 a2 a3 a4 ?_ a6
          rw [a5, hrun]
          simp [hsz]
        · cases hto
      · cases hto
    · cases hto
  · cases hto
theorem slice_ok {t : Nat} {x : Operand} {lo hi mx : Option Operand} {v : V} {H' : HF} (hto : (aop E key T s.H (.slice t x lo hi mx)).to v H') :
    H' = s.H ∧ ∃ y, (Instr.sliceAt t (a.eval x) (lo.map a.eval) (hi.map a.eval) (mx.map a.eval)).run P s.W = .ok y s.W ∧ RelV s v y := by
  have opt : ∀ (q : Option Operand) (d m : Int), optInt T q d = some m → (q.map a.eval = none ∧ m = d) ∨ ∃ k, q.map a.eval = some (.int k m) := by
    intro q d m hq
    cases q with
    | none => injection hq with hq; exact .inl ⟨rfl, hq.symm⟩
    | some o =>
      obtain ⟨k, hk⟩ := asInt_some hq
      exact .inr ⟨k, by rw [Option.map_some, evO_int hT hk]⟩
  simp only [aop] at hto
  split at hto
  · rename_i u hut
    obtain ⟨e, hte, he⟩ := hE.elem t u hut
    split at hto
    · rename_i n hn
      split at hto
      · rename_i hz
        split at hto
        · rename_i l hl
          split at hto
          · rename_i h' hh
            split at hto
            · exact cutV_ok hte he (evO_rel hT x) hn hz hto _ _ _ (opt _ _ _ hl) (opt _ _ _ hh) (.inl ⟨rfl, rfl⟩)
            · rename_i m
              split at hto
              · rename_i hi' m' hm'
                rcases hto with ⟨c1, hto⟩ | ⟨_, hto⟩
                case inr => cases hto
                have c1 : h' = m' := by simpa using c1
                subst c1
                obtain ⟨km, hkm⟩ := asInt_some hm'
                have e1 := evO_int hT hkm
                obtain ⟨kh, hkh⟩ := asInt_some (show asInt (evO T hi') = some h' from hh)
                have e2 := evO_int hT hkh
                exact cutV_ok hte he (evO_rel hT x) hn hz hto _ _ _ (opt _ _ _ hl) (opt _ _ _ hh) (.inr ⟨rfl, ⟨km, by rw [Option.map_some, e1]⟩, kh, by rw [Option.map_some, e2]⟩)
              · cases hto
          · cases hto
        · cases hto
      · cases hto
    · cases hto
  · cases hto

theorem aop_ok {o : Oper} {v : V} {H' : HF} (hto : (aop E key T s.H o.op).to v H') : OpOk B s key ((execOp a.eval o).run P s.W) v H' := by
  obtain ⟨dst, op, ty, ps, aft, grd⟩ := o
  cases op with
  | move x => obtain ⟨rfl, rfl⟩ := hto; exact OpOk.same h rfl (evO_rel hT x)
  | assign x => obtain ⟨rfl, rfl⟩ := hto; exact OpOk.same h rfl (evO_rel hT x)
  | pick c p q =>
    simp only [aop] at hto
    split at hto
    · rename_i b hb
      have e := evO_bool hT hb
      rcases hto with ⟨rfl, rfl, rfl⟩ | ⟨rfl, rfl, rfl⟩
      · exact OpOk.same h (by simp [execOp, e, asBool]) (evO_rel hT p)
      · exact OpOk.same h (by simp [execOp, e, asBool]) (evO_rel hT q)
    · cases hto
  | alloc t => exact .ofVal (alloc_ok hE h hu hk hT hto)
  | box t x => exact .ofVal (box_ok hE h hu hk hT hto)
  | build t ps => exact .ofVal (build_ok hE h hu hk hT hto)
  | buildSlice t n ps => exact .ofVal (buildSlice_ok hE h hu hk hT hto)
  | makeSlice t l c => exact .ofVal (makeSlice_ok hE h hu hk hT hto)
  | load t x => exact .ofVal0 h (loadV_ok hE h (evO_rel hT x) hto)
  | store t p x =>
    obtain ⟨rfl, t', h1, h2, h3, h4, h5⟩ := storeV_ok hE h (evO_rel hT p) (evO_rel hT x) hto
    refine ⟨t', h1, h2, h3, fun k hk => .inl (h4 k hk), .inr ⟨?_, rfl⟩⟩
    simp [execOp, h5]
  | nilCheck x =>
    simp only [aop] at hto
    split at hto
    · rename_i k p hx
      split at hto
      · rename_i c hc
        obtain ⟨rfl, rfl⟩ := hto
        have hr := evO_is hT hx
        obtain ⟨o, cs, t', e, _⟩ := pvar_at h hr hc
        exact OpOk.same h (x := a.eval x) (by simp only [execOp, e]; rfl) hr
      · cases hto
    · rename_i k i p hx
      split at hto
      · rename_i r hrow
        obtain ⟨rfl, rfl⟩ := hto
        have hr := evO_is hT hx
        obtain ⟨b, base, o, cur, t', c, e, _⟩ := prow_at h hr hrow
        exact OpOk.same h (x := a.eval x) (by simp only [execOp, e]; rfl) hr
      · cases hto
    · rename_i u y hx
      obtain ⟨rfl, rfl⟩ := hto
      have hr := evO_is hT hx
      obtain ⟨ad, c, e, _⟩ := pdeep_at hr
      exact OpOk.same h (x := a.eval x) (by simp only [execOp, e]; rfl) hr
    · rename_i f p q hx
      obtain ⟨rfl, rfl⟩ := hto
      have hr := evO_is hT hx
      obtain ⟨cs, h1, h2⟩ := hr.get (by intro h; cases h) (by intro w h; cases h)
      simp only [RelC] at h1
      obtain ⟨l, m, rfl, _, _⟩ := h1
      have e := isVal_one h2 rfl
      exact OpOk.same h (x := a.eval x) (by simp only [execOp, e]; rfl) hr
    · cases hto
  | binOp op t x y c =>
    obtain ⟨rfl, h1, z, h2, h3⟩ := binV_ok hE h (evO_rel hT x) (evO_rel hT y) x y hto
    exact OpOk.same h (by simp [execOp, h1, h2]) h3
  | unOp op t x => exact .ofVal0 h (unV_ok (evO_rel hT x) hto)
  | convert src dst' x =>
    simp only [aop] at hto
    split at hto
    · rename_i k n hx
      split at hto
      · rename_i k1 h1
        split at hto
        · rename_i k2 h2
          obtain ⟨rfl, rfl⟩ := hto
          have e := evO_int hT hx
          have u1 := hE.int _ _ h1
          have u2 := hE.int _ _ h2
          refine OpOk.same h (x := .int k2 (k2.wrap n)) ?_ int_relV
          simp [execOp, convert, e, run_underlying u1, run_underlying u2, Conv.intToInt]
        · cases hto
      · cases hto
    · cases hto
  | makeFunc f p q =>
    cases f with
    | func f =>
      simp only [aop] at hto
      split at hto
      · rename_i hc
        obtain ⟨rfl, rfl⟩ := hto
        simp only [Bool.and_eq_true] at hc
        refine OpOk.same h (x := .func (.func f) (p.map a.eval) (q.map a.eval)) rfl (.inr ⟨[_], ?_, rfl⟩)
        simp only [RelC]
        refine ⟨p.toList.map a.eval, q.toList.map a.eval, ?_, listV_rel hT _ hc.1, listV_rel hT _ hc.2⟩
        rw [← Array.toList_map, ← Array.toList_map]
      · cases hto
    | _ => simp only [aop] at hto; cases hto
  | slice t x lo hi mx => exact .ofVal0 h (slice_ok hE h hu hk hT hto)
  | fieldAddr t x f => exact .ofVal0 h (fieldV_ok hE h (evO_rel hT x) hto)
  | indexAddr t x i =>
    simp only [aop] at hto
    split at hto
    · rename_i n hn
      obtain ⟨k, hk'⟩ := asInt_some hn
      have e := evO_int hT hk'
      have := indexV_ok hE h (k := k) (evO_rel hT x) hto
      rw [← e] at this
      exact .ofVal0 h this
    · cases hto
  | index t x i =>
    simp only [aop] at hto
    split at hto
    · rename_i n hn
      obtain ⟨k, hk'⟩ := asInt_some hn
      have e := evO_int hT hk'
      split at hto
      · rename_i m u ha
        split at hto
        · rename_i n' u' xs hx
          split at hto
          · rename_i hq
            simp only [Bool.and_eq_true] at hq
            have h1 := of_decide_eq_true hq.1
            have h2 := nat_beq hq.2
            subst h1 h2
            obtain ⟨g1, g2, rfl, rfl⟩ := within_to hto
            obtain ⟨e', b, hta, hea⟩ := hE.aelem t _ _ ha
            obtain ⟨y, y1, y2⟩ := index_ok hta hea (evO_is hT hx) (k := k) g1 g2
            rw [← e] at y1
            exact .ofVal0 h ⟨rfl, y, y1, y2⟩
          · cases hto
        · cases hto
      · split at hto
        · rename_i hst
          split at hto
          · rename_i str hs
            obtain ⟨g1, g2, rfl, rfl⟩ := within_to hto
            have hx : x = .const (.string str) := by
              unfold strOf at hs
              split at hs
              · injection hs with hs; rw [hs]
              · cases hs
            subst hx
            have hu := hE.str t hst
            have g3 : n.toNat < str.size := by omega
            have g4 : str[n.toNat]? = some (str.data.toList.getD n.toNat 0) := by
              have h1 : str.data.size = str.size := rfl
              rw [List.getD_eq_getElem?_getD, Array.getElem?_toList, Array.getElem?_eq_getElem (by omega : n.toNat < str.data.size)]
              rw [getElem?_pos str n.toNat g3]
              rfl
            have ev : a.eval (.const (.string str)) = .string str := rfl
            refine .ofVal0 h ⟨rfl, .int .u8 (str.data.toList.getD n.toNat 0).toNat, ?_, int_relV⟩
            simp [Instr.index, asIntOf, e, ev, run_underlying hu, g1, g4]
          · cases hto
        · cases hto
    · cases hto
  | extract x i =>
    simp only [aop] at hto
    split at hto
    · rename_i vs hx
      split at hto
      · rename_i w hw
        obtain ⟨rfl, rfl⟩ := hto
        obtain ⟨l, e, hl⟩ := evO_is hT hx
        obtain ⟨y, h1, h2⟩ := nth_ok hw hl
        refine OpOk.same h (x := y) ?_ h2.toV
        simp [execOp, Instr.extract, e, h1]
      · cases hto
    · cases hto
  | _ => simp only [aop] at hto; cases hto
end
end Go.Proofs.YtdfhopakojmjkaaDoor.Den
