/- Each operation that isn't a call: what it comes to. -/
import Derived.Test.YtdfhopakojmjkaaDoorDenK
namespace Go.Proofs.YtdfhopakojmjkaaDoor.Den
open Go Go.RowKit
set_option linter.unusedVariables false

/-! ### slices cut -/
theorem run_cut {P : Program} {t e : TypeId} {i : TypeInfo} (ht : P.underlying t = some (.slice e)) (hi : P.info? e = some i) (W : World) (A : Option Addr) (n c : Nat) (lo hi' mx : Option Value) (l h m : Nat)
    (hlo : (lo = none ∧ l = 0) ∨ ∃ k, lo = some (.int k l)) (hhi : (hi' = none ∧ h = n) ∨ ∃ k, hi' = some (.int k h)) (hmx : (mx = none ∧ m = c) ∨ ((∃ k, mx = some (.int k m)) ∧ ∃ k, hi' = some (.int k h)))
    (h1 : l ≤ h) (h2 : h ≤ m) (h3 : m ≤ c) : (Instr.sliceAt t (.slice A n c) lo hi' mx).run P W = .ok (sliced A l h m i.size) W := by
  have hs : (sizeOf e).run P W = .ok i.size W := by simp [sizeOf, typeInfo, hi]
  have hb : (Instr.sliceBounds true n c lo hi' mx).run P W = .ok (l, h, m) W := by
    rcases hmx with ⟨rfl, rfl⟩ | ⟨⟨km, rfl⟩, kh, rfl⟩
    · rcases hhi with ⟨rfl, rfl⟩ | ⟨kh, rfl⟩ <;> rcases hlo with ⟨rfl, rfl⟩ | ⟨kl, rfl⟩ <;> simp [Instr.sliceBounds, run_sliceBound, h1, h2]
    · rcases hlo with ⟨rfl, rfl⟩ | ⟨kl, rfl⟩ <;> simp [Instr.sliceBounds, run_sliceBound, h1, h2, h3]
  simp [Instr.sliceAt, Instr.slice, run_underlying ht, hb, hs, sliced]

theorem cut_sl {W : World} {I : Nat → Prop} {u : U} {xs : List u.T} {A : Option Addr} {c l h m : Nat} (hx : SlD W I (RelD W I u) u.size xs (.slice A xs.length c)) (h1 : l ≤ h) (h2 : h ≤ m) (h3 : h ≤ xs.length) :
    SlD W I (RelD W I u) u.size ((xs.drop l).take (h - l)) (sliced A l h m u.size) := by
  obtain ⟨A', cap, e, _, hel⟩ := hx
  injection e with e1 _ e3
  subst e1 e3
  have hl : ((xs.drop l).take (h - l)).length = h - l := by simp; omega
  refine ⟨_, m - l, by rw [hl]; rfl, by rw [hl]; omega, fun i x hi => ?_⟩
  have hil : i < h - l := by
    have := (List.getElem?_eq_some_iff.1 hi).1
    omega
  rw [List.getElem?_take, if_pos hil, List.getElem?_drop] at hi
  obtain ⟨ad, cs, rfl, hI, hr, hlen, hc⟩ := hel _ x hi
  rw [if_neg (by omega)]
  refine ⟨ad.add (l * u.size), cs, rfl, by rw [add_block]; exact hI, hr, hlen, fun j v hj => ?_⟩
  have := hc j v hj
  have e : (ad.add (l * u.size)).add (i * u.size + j) = ad.add ((l + i) * u.size + j) := by
    rw [Nat.add_mul]
    unfold Addr.add
    by_cases h1 : l * u.size = 0 <;> by_cases h2 : i * u.size + j = 0 <;> simp [h1, h2, Nat.add_assoc] <;> omega
  rw [e]
  exact this

theorem cut_row {W : World} {pl : Option (Nat × Nat)} {z o n l h : Nat} {A : Option Addr} {m c : Nat} (hv : RowV W pl z o n (.slice A m c)) (h1 : l ≤ h) (h2 : h ≤ n) :
    RowV W pl z (o + l) (h - l) (sliced A l h c z) := by
  obtain ⟨A', cap, e, hn, hc⟩ := hv
  injection e with e1 e2 e3
  subst e1 e2 e3
  refine ⟨_, c - l, rfl, by omega, ?_⟩
  rcases hc with hc | ⟨b, base, hp, rfl, hs⟩
  · exact .inl (by omega)
  · by_cases hcl : c = l
    · exact .inl (by omega)
    · refine .inr ⟨b, base, hp, ?_, ?_⟩
      · rw [if_neg hcl]
        simp only [Option.map_some, addr_add]
        rw [Nat.add_mul, Nat.add_assoc]
      · rw [show o + l + (c - l) = o + c by omega]
        exact hs

theorem fits_dsl {H : HF} {z : Nat} {u : U} {xs : List u.T} (h : fitsZ H z (.d (.sl u) xs) = true) : u.size = z := nat_beq h
theorem fits_dfull {H : HF} {z : Nat} {u : U} {xs : List u.T} (h : fitsZ H z (.dfull u xs) = true) : u.size = z := nat_beq h
theorem fits_row {H : HF} {z k : Nat} {r : Row} (hr : H.row k = some r) (h : fitsZ H z (.row k) = true) : r.u.size = z := by
  simp only [fitsZ, hr] at h
  exact nat_beq h
theorem fits_rsub {H : HF} {z k o n : Nat} {r : Row} (hr : H.row k = some r) (h : fitsZ H z (.rsub k o n) = true) : r.u.size = z := by
  simp only [fitsZ, hr] at h
  exact nat_beq h

theorem cutV_ok {P : Program} {t e : TypeId} {u0 : U} {bt : Nat} (ht : P.underlying t = some (.slice e)) (he : ElemFact P e u0 bt) {s : S4} {x : V} {X : Value} (hx : RelV s x X) {full : Bool} {l h' : Int} {v' : V} {H' : HF} {n : Int} (hn : lenV s.H x = some n)
    (hz : fitsZ s.H u0.size x = true)
    (hto : (cutV s.H full x l h').to v' H') (lo hi mx : Option Value) (hlo : (lo = none ∧ l = 0) ∨ ∃ k, lo = some (.int k l)) (hhi : (hi = none ∧ h' = n) ∨ ∃ k, hi = some (.int k h')) (hmx : (full = false ∧ mx = none) ∨ (full = true ∧ (∃ k, mx = some (.int k h')) ∧ ∃ k, hi = some (.int k h'))) :
    H' = s.H ∧ ∃ y, (Instr.sliceAt t X lo hi mx).run P s.W = .ok y s.W ∧ RelV s v' y := by
  unfold cutV at hto
  rw [hn] at hto
  simp only [Res.to] at hto
  rcases hto with ⟨c1, hto⟩ | ⟨_, hto⟩
  case inr => cases hto
  rcases hto with ⟨c2, hto⟩ | ⟨_, hto⟩
  case inr => cases hto
  rcases hto with ⟨c3, hto⟩ | ⟨_, hto⟩
  case inr => cases hto
  have c1 := of_decide_eq_true c1
  have c2 := of_decide_eq_true c2
  have c3 := of_decide_eq_true c3
  obtain ⟨A, m, c, rfl, hnm, hmc⟩ := lenV_ok hx hn
  obtain ⟨i, z, hi', hsz, _⟩ := he.info
  obtain ⟨L, rfl⟩ : ∃ L : Nat, l = L := ⟨l.toNat, by omega⟩
  obtain ⟨Hh, rfl⟩ : ∃ q : Nat, h' = q := ⟨h'.toNat, by omega⟩
  subst hnm
  have b1 : L ≤ Hh := by omega
  have b2 : Hh ≤ m := by omega
  obtain ⟨M, hMf, hMt, hHM, hMc, hrun⟩ : ∃ M : Nat, (full = false → M = c) ∧ (full = true → M = Hh) ∧ Hh ≤ M ∧ M ≤ c ∧ (Instr.sliceAt t (.slice A m c) lo hi mx).run P s.W = .ok (sliced A L Hh M i.size) s.W := by
    have hlo' : (lo = none ∧ L = 0) ∨ ∃ k, lo = some (.int k L) := hlo.imp (fun q => ⟨q.1, by omega⟩) id
    rcases hmx with ⟨hf, rfl⟩ | ⟨hf, ⟨km, rfl⟩, kh, rfl⟩
    · refine ⟨c, fun _ => rfl, (fun h0 => by rw [hf] at h0; cases h0), by omega, Nat.le_refl _, ?_⟩
      exact run_cut ht hi' s.W A m c lo hi none L Hh c hlo' (hhi.imp (fun q => ⟨q.1, by omega⟩) id) (.inl ⟨rfl, rfl⟩) b1 (by omega) (Nat.le_refl _)
    · refine ⟨Hh, (fun h0 => by rw [hf] at h0; cases h0), fun _ => rfl, Nat.le_refl _, by omega, ?_⟩
      exact run_cut ht hi' s.W A m c lo (some (.int kh Hh)) (some (.int km Hh)) L Hh Hh hlo' (.inr ⟨kh, rfl⟩) (.inr ⟨⟨km, rfl⟩, kh, rfl⟩) b1 (Nat.le_refl _) (by omega)
  rw [hsz] at hrun
  simp only [Int.toNat_natCast] at hto
  have fin : ∀ {u : U} {xs : List u.T}, u.size = u0.size → SlD s.W s.I (RelD s.W s.I u) u.size xs (.slice A m c) →
      SlD s.W s.I (RelD s.W s.I u) u.size ((xs.drop L).take (Hh - L)) (sliced A L Hh M u0.size) ∧ (full = true → ∃ A', sliced A L Hh M u0.size = .slice A' ((xs.drop L).take (Hh - L)).length ((xs.drop L).take (Hh - L)).length) := by
    intro u xs hu hsl
    have hxs : xs.length = m := by
      obtain ⟨A', c', e, _⟩ := hsl
      injection e with _ e _
      exact e.symm
    have hcut := cut_sl (l := L) (h := Hh) (m := M) (by rw [hxs]; exact hsl) b1 hHM (by omega)
    rw [hu] at hcut ⊢
    refine ⟨hcut, fun hf => ?_⟩
    have := hMt hf
    subst this
    have hl : ((xs.drop L).take (M - L)).length = M - L := by simp; omega
    exact ⟨_, by rw [hl]; rfl⟩
  have fin2 : ∀ {u : U} {xs : List u.T}, u.size = u0.size → SlD s.W s.I (RelD s.W s.I u) u.size xs (.slice A m c) →
      (match full with
        | true => Res.ok (.dfull u ((xs.drop L).take (Hh - L))) s.H
        | false => Res.ok (.d (.sl u) ((xs.drop L).take (Hh - L))) s.H).to v' H' → H' = s.H ∧ RelV s v' (sliced A L Hh M u0.size) := by
    intro u xs hu hsl hto
    obtain ⟨f1, f2⟩ := fin hu hsl
    cases full with
    | true =>
      obtain ⟨rfl, rfl⟩ := hto
      obtain ⟨A', e⟩ := f2 rfl
      refine ⟨rfl, .inr ⟨[sliced A L Hh M u0.size], ?_, rfl⟩⟩
      simp only [RelC, RelD]
      exact ⟨⟨_, rfl, f1⟩, A', by rw [e]⟩
    | false =>
      obtain ⟨rfl, rfl⟩ := hto
      refine ⟨rfl, .inr ⟨[sliced A L Hh M u0.size], ?_, rfl⟩⟩
      simp only [RelC, RelD]
      exact ⟨_, rfl, f1⟩
  split at hto
  · rename_i u xs
    obtain ⟨e, hv⟩ := fin2 (fits_dsl hz) (relV_sl hx) hto
    exact ⟨e, _, hrun, hv⟩
  · rename_i u xs
    obtain ⟨e, hv⟩ := fin2 (fits_dfull hz) (relV_dfull hx).1 hto
    exact ⟨e, _, hrun, hv⟩
  · obtain ⟨rfl, rfl⟩ := hto
    obtain ⟨cs, h1, h2⟩ := hx.get (by intro h; cases h) (by intro w h; cases h)
    simp only [RelC] at h1
    subst h1
    have := isVal_one h2 rfl
    injection this with e1 e2 e3
    subst e1 e2 e3
    obtain rfl : Hh = 0 := by omega
    obtain rfl : L = 0 := by omega
    obtain rfl : M = 0 := by omega
    exact ⟨rfl, _, hrun, .inr ⟨[_], rfl, rfl⟩⟩
  · rename_i k
    cases full with
    | true => cases hto
    | false =>
      obtain ⟨rfl, rfl⟩ := hto
      obtain ⟨g1, g2, g3⟩ := relV_row hx
      obtain rfl := hMf rfl
      refine ⟨rfl, _, hrun, .inr ⟨[_], ?_, rfl⟩⟩
      simp only [RelC]
      refine ⟨g1, _, rfl, rfl, fun r hr => ?_⟩
      have hv := g3 r hr
      have hrm : r.xs.length = m := by
        obtain ⟨_, _, e, _⟩ := hv
        injection e with _ e _
        exact e.symm
      have hfz := fits_row hr hz
      have := cut_row (l := L) (h := Hh) hv b1 (by omega)
      rw [Nat.zero_add] at this
      rw [← hfz]
      exact ⟨by omega, this⟩
  · rename_i k o q
    cases full with
    | true => cases hto
    | false =>
      obtain ⟨rfl, rfl⟩ := hto
      obtain ⟨g1, g2, g3⟩ := relV_rsub hx
      obtain rfl := hMf rfl
      refine ⟨rfl, _, hrun, .inr ⟨[_], ?_, rfl⟩⟩
      simp only [RelC]
      refine ⟨g1, _, rfl, rfl, fun r hr => ?_⟩
      obtain ⟨h0, hv⟩ := g3 r hr
      have hrm : q = m := by
        obtain ⟨_, _, e, _⟩ := hv
        injection e with _ e _
        exact e.symm
      have hfz := fits_rsub hr hz
      have := cut_row (l := L) (h := Hh) hv b1 (by omega)
      rw [← hfz]
      exact ⟨by omega, this⟩
  · cases hto
end Go.Proofs.YtdfhopakojmjkaaDoor.Den
