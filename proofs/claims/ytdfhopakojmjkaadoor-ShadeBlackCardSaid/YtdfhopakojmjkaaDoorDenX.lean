/- Each operation keeps to its own part of the evaluator's memory. -/
import Derived.Test.YtdfhopakojmjkaaDoorDenW
namespace Go.Proofs.YtdfhopakojmjkaaDoor.Den
open Go Go.RowKit
set_option linter.unusedVariables false
set_option linter.unusedSectionVars false

def Loc (A : Nat → Prop) (f : HF → Res) : Prop := ∀ H H2 v H', Agree A H H2 → (f H).to v H' → ∃ H2', (f H2).to v H2' ∧ Patch A H' H2 H2'
theorem Agree.patch {A : Nat → Prop} {H H2 : HF} (h : Agree A H H2) : Patch A H H2 H2 := ⟨h, fun _ _ => ⟨rfl, rfl⟩, rfl⟩
theorem loc_setH {A : Nat → Prop} {f : HF → Res} (hf : ∀ H H2, Agree A H H2 → f H2 = (f H).setH H2) : Loc A f := by
  intro H H2 v H' hA h
  have e := hf H H (fun _ _ => ⟨rfl, rfl⟩)
  have h1 := Res.to_setH (H2 := H) h
  rw [← e] at h1
  obtain ⟨_, rfl⟩ := Res.to_det h h1
  exact ⟨H2, by rw [hf H' H2 hA]; exact Res.to_setH h, hA.patch⟩
theorem keep_setH {f : HF → Res} {H H' : HF} {v : V} (e : f H = (f H).setH H) (h : (f H).to v H') : H' = H := by
  have h1 := Res.to_setH (H2 := H) h
  rw [← e] at h1
  exact (Res.to_det h h1).2

section
variable {A : Nat → Prop} {H H' H2 H2' : HF}
theorem Patch.setVar (h : Patch A H' H2 H2') {k : Nat} (hk : A k) (c : V) : Patch A (H'.setVar k c) H2 (H2'.setVar k c) where
  on := fun j hj => by
    have := h.on j hj
    unfold HF.setVar
    exact ⟨by simp only [this.1], this.2⟩
  off := fun j hj => by
    have := h.off j hj
    have hne : j ≠ k := fun e => hj (e ▸ hk)
    unfold HF.setVar
    exact ⟨by simp only [nbeq hne, cond_false]; exact this.1, this.2⟩
  nx := h.nx
theorem Patch.setRow (h : Patch A H' H2 H2') {k : Nat} (hk : A k) (r : Row) : Patch A (H'.setRow k r) H2 (H2'.setRow k r) where
  on := fun j hj => by
    have := h.on j hj
    unfold HF.setRow
    exact ⟨this.1, by simp only [this.2]⟩
  off := fun j hj => by
    have := h.off j hj
    have hne : j ≠ k := fun e => hj (e ▸ hk)
    unfold HF.setRow
    exact ⟨this.1, by simp only [nbeq hne, cond_false]; exact this.2⟩
  nx := h.nx
theorem Patch.delRow (h : Patch A H' H2 H2') {k : Nat} (hk : A k) : Patch A (H'.delRow k) H2 (H2'.delRow k) where
  on := fun j hj => by
    have := h.on j hj
    unfold HF.delRow
    exact ⟨this.1, by simp only [this.2]⟩
  off := fun j hj => by
    have := h.off j hj
    have hne : j ≠ k := fun e => hj (e ▸ hk)
    unfold HF.delRow
    exact ⟨this.1, by simp only [nbeq hne, cond_false]; exact this.2⟩
  nx := h.nx
theorem Patch.freeze : ∀ {ks : List Nat} {H' H2' : HF}, Patch A H' H2 H2' → (∀ k ∈ ks, A k) → Patch A (H'.freeze ks) H2 (H2'.freeze ks)
  | [], _, _, h, _ => h
  | k :: ks, H', H2', h, hk => by
    have hk0 := hk k (by simp)
    have e := (h.on k hk0).2
    simp only [HF.freeze, e]
    split
    · exact (h.setRow hk0 _).freeze (fun j hj => hk j (by simp [hj]))
    · exact h.freeze (fun j hj => hk j (by simp [hj]))
theorem recv_patch : ∀ {r : RU} {x : r.T} {k : Nat} {H' H2' : HF}, Patch A H' H2 H2' → (∀ j, k ≤ j → j < k + r.owns → A j) →
    (r.recv x k H2').1 = (r.recv x k H').1 ∧ (r.recv x k H2').2.1 = (r.recv x k H').2.1 ∧ (r.recv x k H').2.1 = k + r.owns ∧ Patch A (r.recv x k H').2.2 H2 (r.recv x k H2').2.2
  | .d u, x, k, H', H2', h, hk => ⟨rfl, rfl, rfl, h⟩
  | .own u, xs, k, H', H2', h, hk => ⟨rfl, rfl, rfl, h.setRow (hk k (Nat.le_refl _) (by simp [RU.owns])) _⟩
  | .nil, x, k, H', H2', h, hk => ⟨rfl, rfl, rfl, h⟩
  | .cons a b, x, k, H', H2', h, hk => by
    simp only [RU.owns] at hk
    obtain ⟨a1, a2, a3, a4⟩ := recv_patch (r := a) (x := x.1) h (fun j h1 h2 => hk j h1 (by omega))
    obtain ⟨b1, b2, b3, b4⟩ := recv_patch (r := b) (x := x.2) (k := k + a.owns) a4 (fun j h1 h2 => hk j (by omega) (by omega))
    simp only [RU.recv, RU.owns]
    rw [a2, a3, a1]
    exact ⟨by rw [b1], b2, by rw [b3]; omega, b4⟩
end

theorem rows_keys : ∀ {v : V} {k : Nat}, k ∈ v.rows → k ∈ v.keys
  | .cons a b, k, h => by
    simp only [V.rows, List.mem_append] at h
    simp only [V.keys, List.mem_append]
    exact h.imp rows_keys rows_keys
  | .row k, _, h => h
  | .rsub k _ _, _, h => h
  | .tup v, k, h => rows_keys (v := v) h
  | .d _ _, _, h => by simp [V.rows] at h
  | .nil, _, h => by simp [V.rows] at h
  | .nilsl, _, h => by simp [V.rows] at h
  | .dfull _ _, _, h => by simp [V.rows] at h
  | .pvar _ _, _, h => by simp [V.rows] at h
  | .prow _ _ _, _, h => by simp [V.rows] at h
  | .pdeep _ _, _, h => by simp [V.rows] at h
  | .fn _ _ _, _, h => by simp [V.rows] at h
  | .undef, _, h => by simp [V.rows] at h

section
variable {A : Nat → Prop} {E : TE} {key : Nat} (hkey : ∀ k, key ≤ k → k < key + 16 → A k)
include hkey
theorem store_loc {t : Nat} {v p : V} (hv : ∀ k ∈ v.keys, A k) (hp : ∀ k ∈ p.keys, A k) : Loc A (fun H => storeV E H t v p) := by
  intro H H2 w H' hA h
  cases p with
  | pvar k pth =>
    have hk : A k := hp k (by simp [V.keys])
    simp only [storeV, (hA k hk).1] at h ⊢
    split at h
    · split at h
      · split at h
        · split at h
          · split at h
            · obtain ⟨rfl, rfl⟩ := h
              exact ⟨_, ⟨rfl, rfl⟩, hA.patch.setVar hk _⟩
            · cases h
          · cases h
        · cases h
      · cases h
    · cases h
  | prow k i pth =>
    have hk : A k := hp k (by simp [V.keys])
    have hd := fun u => deepen_agree hA (u := u) hv
    simp only [storeV, (hA k hk).2, hd] at h ⊢
    split at h
    · split at h
      · split at h
        · split at h
          · split at h
            · split at h
              · split at h
                · split at h
                  · cases h
                  · obtain ⟨rfl, rfl⟩ := h
                    exact ⟨_, ⟨rfl, rfl⟩, (hA.patch.freeze fun j hj => hv j (rows_keys hj)).setRow hk _⟩
                · cases h
              · cases h
            · cases h
          · cases h
        · cases h
      · cases h
    · cases h
  | _ => simp only [storeV] at h; cases h
theorem append_loc {u : U} {bytes : Nat} {x y : V} (hx : ∀ k ∈ x.keys, A k) (hy : ∀ k ∈ y.keys, A k) : Loc A (fun H => appendV H key u bytes x y) := by
  intro H H2 w H' hA h
  have hk : A key := hkey key (Nat.le_refl _) (by omega)
  have hd := deepen_agree hA (u := .sl u) hy
  simp only [appendV, hd] at h ⊢
  split at h
  · cases h
  · rename_i ys hys
    cases x with
    | nilsl =>
      simp only at h ⊢
      rcases h with ⟨c, rfl, rfl⟩ | ⟨_, h⟩
      · exact ⟨_, .inl ⟨c, rfl, rfl⟩, hA.patch.setRow hk _⟩
      · cases h
    | dfull u' xs =>
      simp only at h ⊢
      split at h
      · rename_i zs hz
        rcases h with ⟨c, h⟩ | ⟨_, h⟩
        · rcases h with ⟨c2, rfl, rfl⟩ | ⟨_, h⟩
          · exact ⟨_, .inl ⟨c, .inl ⟨c2, rfl, rfl⟩⟩, hA.patch.setRow hk _⟩
          · cases h
        · cases h
      · cases h
    | row k =>
      have hk' : A k := hx k (by simp [V.keys])
      simp only [(hA k hk').2] at h ⊢
      split at h
      · split at h
        · split at h
          · rename_i r hr hw zs hz
            rcases h with ⟨c, rfl, rfl⟩ | ⟨_, h⟩
            · exact ⟨_, .inl ⟨c, rfl, rfl⟩, (hA.patch.delRow hk').setRow hk _⟩
            · cases h
          · cases h
        · cases h
      · cases h
    | rsub k o n =>
      have hk' : A k := hx k (by simp [V.keys])
      simp only [(hA k hk').2] at h ⊢
      split at h
      · split at h
        · split at h
          · rename_i r hr hw zs hz
            rcases h with ⟨c, rfl, rfl⟩ | ⟨_, h⟩
            · exact ⟨_, .inl ⟨c, rfl, rfl⟩, (hA.patch.delRow hk').setRow hk _⟩
            · cases h
          · cases h
        · cases h
      · cases h
    | _ => simp only at h; cases h
theorem clear_loc {u : U} {x : V} (hx : ∀ k ∈ x.keys, A k) : Loc A (fun H => clearV H u x) := by
  intro H H2 w H' hA h
  cases x with
  | nilsl =>
    obtain ⟨rfl, rfl⟩ := h
    exact ⟨_, ⟨rfl, rfl⟩, hA.patch⟩
  | row k =>
    have hk' : A k := hx k (by simp [V.keys])
    simp only [clearV, (hA k hk').2] at h ⊢
    split at h
    · split at h
      · obtain ⟨rfl, rfl⟩ := h
        exact ⟨_, ⟨rfl, rfl⟩, hA.patch.setRow hk' _⟩
      · cases h
    · cases h
  | rsub k o n =>
    have hk' : A k := hx k (by simp [V.keys])
    simp only [clearV, (hA k hk').2] at h ⊢
    split at h
    · split at h
      · obtain ⟨rfl, rfl⟩ := h
        exact ⟨_, ⟨rfl, rfl⟩, hA.patch.setRow hk' _⟩
      · cases h
    · cases h
  | _ => simp only [clearV] at h; cases h
theorem copy_loc {u : U} {x y : V} (hx : ∀ k ∈ x.keys, A k) (hy : ∀ k ∈ y.keys, A k) : Loc A (fun H => copyV H u x y) := by
  intro H H2 w H' hA h
  have hd := deepen_agree hA (u := .sl u) hy
  simp only [copyV, hd] at h ⊢
  split at h
  · cases h
  · rename_i ys hys
    cases x with
    | nilsl =>
      obtain ⟨rfl, rfl⟩ := h
      exact ⟨_, ⟨rfl, rfl⟩, hA.patch⟩
    | row k =>
      have hk' : A k := hx k (by simp [V.keys])
      simp only [(hA k hk').2] at h ⊢
      split at h
      · split at h
        · split at h
          · obtain ⟨rfl, rfl⟩ := h
            exact ⟨_, ⟨rfl, rfl⟩, hA.patch.setRow hk' _⟩
          · cases h
        · cases h
      · cases h
    | rsub k o n =>
      have hk' : A k := hx k (by simp [V.keys])
      simp only [(hA k hk').2] at h ⊢
      split at h
      · split at h
        · split at h
          · obtain ⟨rfl, rfl⟩ := h
            exact ⟨_, ⟨rfl, rfl⟩, hA.patch.setRow hk' _⟩
          · cases h
        · cases h
      · cases h
    | _ => simp only at h; cases h
theorem sum_loc {sm : Sum} {args : V} {tup : Bool} (ha : ∀ k ∈ args.keys, A k) : Loc A (fun H => asum sm key H args tup) := by
  intro H H2 w H' hA h
  have hd := deepen_agree hA (u := sm.a) ha
  simp only [asum, hd] at h ⊢
  split at h
  · cases h
  · rename_i x hx
    split at h
    · rename_i h16
      have h16' : sm.r.owns ≤ 16 := by simpa [Nat.ble_eq] using h16
      obtain ⟨y, hy, h⟩ := h
      have hp : Patch A (bif sm.r.anyD then H.freeze args.rows else H) H2 (bif sm.r.anyD then H2.freeze args.rows else H2) := by
        cases sm.r.anyD with
        | true => exact hA.patch.freeze fun k hk => ha k (rows_keys hk)
        | false => exact hA.patch
      obtain ⟨a1, a2, a3, a4⟩ := recv_patch (r := sm.r) (x := y) (k := key) hp (fun j h1 h2 => hkey j h1 (by omega))
      obtain ⟨rfl, rfl⟩ := h
      exact ⟨_, ⟨y, hy, by rw [a1], rfl⟩, a4⟩
    · cases h
end
end Go.Proofs.YtdfhopakojmjkaaDoor.Den
