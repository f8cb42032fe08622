/- Regions whose operations may run in other orders: what comes of text order comes of each. -/
import Derived.Test.YtdfhopakojmjkaaDoorDenX
namespace Go.Proofs.YtdfhopakojmjkaaDoor.Den
open Go Go.RowKit
set_option linter.unusedVariables false
set_option linter.unusedSectionVars false

/-! ### the operands alone matter -/
theorem keysOf_mem {T : TF} : ∀ {l : List Operand} {x : Operand} {k : Nat}, x ∈ l → k ∈ (evO T x).keys → k ∈ keysOf T l
  | a :: l, x, k, hx, hk => by
    simp only [keysOf, List.mem_append]
    rcases List.mem_cons.1 hx with rfl | hx
    · exact .inl hk
    · exact .inr (keysOf_mem hx hk)
theorem keysOf_congr {T T2 : TF} : ∀ {l : List Operand}, (∀ x ∈ l, evO T2 x = evO T x) → keysOf T2 l = keysOf T l
  | [], _ => rfl
  | a :: l, h => by simp only [keysOf, h a (by simp), keysOf_congr (l := l) (fun x hx => h x (by simp [hx]))]
theorem listV_congr {T T2 : TF} : ∀ {l : List Operand}, (∀ x ∈ l, evO T2 x = evO T x) → aop.listV T2 l = aop.listV T l
  | [], _ => rfl
  | a :: l, h => by simp only [aop.listV, h a (by simp), listV_congr (l := l) (fun x hx => h x (by simp [hx]))]
theorem listV_keys {T : TF} : ∀ {l : List Operand} {k : Nat}, k ∈ (aop.listV T l).keys → k ∈ keysOf T l
  | [], k, h => by simp [aop.listV, V.keys] at h
  | a :: l, k, h => by
    simp only [aop.listV, V.keys, List.mem_append] at h
    simp only [keysOf, List.mem_append]
    exact h.imp id listV_keys
theorem fillV_congr {H : HF} {T T2 : TF} {u : U} : ∀ {l : List (Nat × Operand)} {xs : List u.T}, (∀ x ∈ l.map (·.2), evO T2 x = evO T x) → fillV H T2 u l xs = fillV H T u l xs
  | [], _, _ => rfl
  | (i, a) :: l, xs, h => by
    simp only [fillV, h a (by simp)]
    split
    · split
      · exact fillV_congr (fun x hx => h x (by simp only [List.map_cons, List.mem_cons]; exact .inr hx))
      · rfl
    · rfl
theorem rowsOfs_congr {T T2 : TF} : ∀ {l : List (Nat × Operand)}, (∀ x ∈ l.map (·.2), evO T2 x = evO T x) → rowsOfs T2 l = rowsOfs T l
  | [], _ => rfl
  | (i, a) :: l, h => by simp only [rowsOfs, h a (by simp), rowsOfs_congr (l := l) (fun x hx => h x (by simp only [List.map_cons, List.mem_cons]; exact .inr hx))]
theorem rowsOfs_keys {T : TF} : ∀ {l : List (Nat × Operand)} {k : Nat}, k ∈ rowsOfs T l → k ∈ keysOf T (l.map (·.2))
  | [], k, h => by simp [rowsOfs] at h
  | (i, a) :: l, k, h => by
    simp only [rowsOfs, List.mem_append] at h
    simp only [List.map_cons, keysOf, List.mem_append]
    exact h.imp rows_keys rowsOfs_keys
theorem fillV_agree {D : Nat → Prop} {H H2 : HF} (hA : Agree D H H2) {T : TF} {u : U} : ∀ {l : List (Nat × Operand)} {xs : List u.T}, (∀ k ∈ keysOf T (l.map (·.2)), D k) → fillV H2 T u l xs = fillV H T u l xs
  | [], _, _ => rfl
  | (i, a) :: l, xs, h => by
    have e := deepen_agree hA (u := u) (v := evO T a) (fun k hk => h k (by simp only [List.map_cons, keysOf, List.mem_append]; exact .inl hk))
    simp only [fillV, e]
    split
    · split
      · exact fillV_agree hA (fun k hk => h k (by simp only [List.map_cons, keysOf, List.mem_append]; exact .inr hk))
      · rfl
    · rfl
theorem buildFs_congr {T T2 : TF} : ∀ {l : List (Nat × Operand)} {v : V}, (∀ x ∈ l.map (·.2), evO T2 x = evO T x) → buildFs T2 l v = buildFs T l v
  | [], _, _ => rfl
  | (i, a) :: l, v, h => by
    simp only [buildFs, h a (by simp)]
    split
    · split
      · split
        · exact buildFs_congr (fun x hx => h x (by simp only [List.map_cons, List.mem_cons]; exact .inr hx))
        · rfl
      · rfl
    · rfl
theorem optInt_congr {T T2 : TF} {o : Option Operand} {d : Int} (h : ∀ x ∈ o.toArray.toList, evO T2 x = evO T x) : optInt T2 o d = optInt T o d := by
  cases o with
  | none => rfl
  | some x => simp only [optInt, h x (by simp)]

section
variable {E : TE} {S : FuncId → Option Sum}
theorem opRes_congr {key : Nat} {T T2 : TF} {H : HF} {op : Op} (h : ∀ x ∈ op.operands.toList, evO T2 x = evO T x) : opRes E S key T2 H op = opRes E S key T H op := by
  cases op with
  | call c =>
    have h2 : ∀ x ∈ c.args.toList, evO T2 x = evO T x := fun x hx => h x (by simp [Op.operands, Call.operands]; exact .inr (by simpa using hx))
    simp only [opRes]
    split
    · unfold abuiltin
      split
      · rename_i x t hx ht hc
        simp only [h2 x (by rw [hx]; simp)]
      · rename_i x y t t' hx ht hc
        simp only [h2 x (by rw [hx]; simp), h2 y (by rw [hx]; simp)]
      · rename_i x t hx ht hc
        simp only [h2 x (by rw [hx]; simp)]
      · rename_i x y t t' hx ht hc
        simp only [h2 x (by rw [hx]; simp), h2 y (by rw [hx]; simp)]
      · rename_i x t hx ht hc
        simp only [h2 x (by rw [hx]; simp)]
      · rename_i x y t t' hx ht hc
        simp only [h2 x (by rw [hx]; simp), h2 y (by rw [hx]; simp)]
      · rename_i x y t t' hx ht hc
        simp only [h2 x (by rw [hx]; simp), h2 y (by rw [hx]; simp)]
      · rfl
    · rename_i x hx
      rw [h x (by simp [Op.operands, Call.operands, hx]), listV_congr h2]
    · rfl
  | move x => simp only [opRes, aop, h x (by simp [Op.operands])]
  | assign x => simp only [opRes, aop, h x (by simp [Op.operands])]
  | pick c x y => simp only [opRes, aop, h c (by simp [Op.operands]), h x (by simp [Op.operands]), h y (by simp [Op.operands])]
  | box t x => simp only [opRes, aop, h x (by simp [Op.operands])]
  | build t ps =>
    have h2 : ∀ x ∈ ps.toList.map (·.2), evO T2 x = evO T x := fun x hx => h x (by simpa [Op.operands] using hx)
    simp only [opRes, aop]
    split
    · rw [buildFs_congr h2]
    · rfl
    · rfl
  | buildSlice t n ps =>
    have h2 : ∀ x ∈ ps.toList.map (·.2), evO T2 x = evO T x := fun x hx => h x (by simpa [Op.operands] using hx)
    simp only [opRes, aop, fillV_congr h2, rowsOfs_congr h2]
  | load t x => simp only [opRes, aop, h x (by simp [Op.operands])]
  | store t p x => simp only [opRes, aop, h x (by simp [Op.operands]), h p (by simp [Op.operands])]
  | nilCheck x => simp only [opRes, aop, h x (by simp [Op.operands])]
  | binOp op t x y c => simp only [opRes, aop, h x (by simp [Op.operands]), h y (by simp [Op.operands])]
  | unOp op t x => simp only [opRes, aop, h x (by simp [Op.operands])]
  | convert a b x => simp only [opRes, aop, h x (by simp [Op.operands])]
  | makeFunc f p q =>
    have h1 : ∀ x ∈ p.toList, evO T2 x = evO T x := fun x hx => h x (by simp only [Op.operands, Array.toList_append, List.mem_append]; exact .inl hx)
    have h2 : ∀ x ∈ q.toList, evO T2 x = evO T x := fun x hx => h x (by simp only [Op.operands, Array.toList_append, List.mem_append]; exact .inr hx)
    cases f with
    | func f => simp only [opRes, aop, listV_congr h1, listV_congr h2]
    | _ => rfl
  | makeSlice t l c => simp only [opRes, aop, h l (by simp [Op.operands]), h c (by simp [Op.operands])]
  | slice t x lo hi mx =>
    have hx := h x (by simp [Op.operands])
    have h1 := fun d => optInt_congr (T := T) (T2 := T2) (o := lo) (d := d) (fun x hx => h x (by simp [Op.operands] at hx ⊢; exact .inr (.inl hx)))
    have h2 := fun d => optInt_congr (T := T) (T2 := T2) (o := hi) (d := d) (fun x hx => h x (by simp [Op.operands] at hx ⊢; exact .inr (.inr (.inl hx))))
    simp only [opRes, aop, hx, h1, h2]
    cases mx with
    | none => rfl
    | some m => simp only [h m (by simp [Op.operands])]
  | fieldAddr t x f => simp only [opRes, aop, h x (by simp [Op.operands])]
  | indexAddr t x i => simp only [opRes, aop, h x (by simp [Op.operands]), h i (by simp [Op.operands])]
  | index t x i => simp only [opRes, aop, h x (by simp [Op.operands]), h i (by simp [Op.operands])]
  | extract x i => simp only [opRes, aop, h x (by simp [Op.operands])]
  | _ => rfl

/-- What an operation may touch. -/
def Own (T : TF) (op : Op) (key : Nat) (k : Nat) : Prop := k ∈ opKeys T op ∨ (key ≤ k ∧ k < key + 16)
theorem opKeys_congr {T T2 : TF} {op : Op} (h : ∀ x ∈ op.operands.toList, evO T2 x = evO T x) : opKeys T2 op = opKeys T op := by
  unfold opKeys
  rw [keysOf_congr h]
theorem opRes_loc {key : Nat} {T : TF} {op : Op} : Loc (Own T op key) (fun H => opRes E S key T H op) := by
  have hkey : ∀ k, key ≤ k → k < key + 16 → Own T op key k := fun k h1 h2 => .inr ⟨h1, h2⟩
  have own : memOf op = true → ∀ x ∈ op.operands.toList, ∀ k ∈ (evO T x).keys, Own T op key k := fun hm x hx k hk => .inl (by unfold opKeys; rw [hm]; exact keysOf_mem hx hk)
  have hk0 : Own T op key key := hkey key (Nat.le_refl _) (by omega)
  cases op with
  | call c =>
    have h2 : ∀ x ∈ c.args.toList, ∀ k ∈ (evO T x).keys, Own T (.call c) key k := fun x hx => own rfl x (by simp [Op.operands, Call.operands]; exact .inr (by simpa using hx))
    have h3 : ∀ k ∈ (aop.listV T c.args.toList).keys, Own T (.call c) key k := fun k hk => by
      have := listV_keys hk
      refine .inl ?_
      show k ∈ keysOf T (Op.call c).operands.toList
      have e : ∃ l, (Op.call c).operands.toList = l ++ c.args.toList := ⟨_, by simp only [Op.operands, Call.operands, Array.toList_append]; rfl⟩
      obtain ⟨l, e⟩ := e
      rw [e]
      have : ∀ {l m : List Operand}, k ∈ keysOf T m → k ∈ keysOf T (l ++ m) := by
        intro l m hm
        induction l with
        | nil => exact hm
        | cons a l ih => simp only [List.cons_append, keysOf, List.mem_append]; exact .inr ih
      exact this (listV_keys hk)
    intro H H2 v H' hA h
    simp only [opRes] at h ⊢
    split at h
    · rename_i b hb
      unfold abuiltin at h ⊢
      split at h
      · rename_i x t hx ht
        split at h
        · rename_i u hu
          simp only [lenV_agree hA (h2 x (by rw [hx]; simp))]
          split at h
          · obtain ⟨rfl, rfl⟩ := h
            exact ⟨_, ⟨rfl, rfl⟩, hA.patch⟩
          · cases h
        · cases h
      · rename_i x y t t' hx ht
        split at h
        · rename_i u hu
          split at h
          · rename_i hq
            exact append_loc hkey (h2 x (by rw [hx]; simp)) (h2 y (by rw [hx]; simp)) H H2 v H' hA h
          · cases h
        · cases h
      · rename_i x t hx ht
        split at h
        · exact clear_loc hkey (h2 x (by rw [hx]; simp)) H H2 v H' hA h
        · cases h
      · rename_i x y t t' hx ht
        split at h
        · exact copy_loc hkey (h2 x (by rw [hx]; simp)) (h2 y (by rw [hx]; simp)) H H2 v H' hA h
        · cases h
      · split at h
        · split at h
          · obtain ⟨rfl, rfl⟩ := h
            exact ⟨_, ⟨rfl, rfl⟩, hA.patch⟩
          · cases h
        · cases h
      · split at h
        · split at h
          · obtain ⟨rfl, rfl⟩ := h
            exact ⟨_, ⟨rfl, rfl⟩, hA.patch⟩
          · cases h
        · cases h
      · split at h
        · split at h
          · obtain ⟨rfl, rfl⟩ := h
            exact ⟨_, ⟨rfl, rfl⟩, hA.patch⟩
          · cases h
        · cases h
      · cases h
    · split at h
      · split at h
        · split at h
          · exact sum_loc hkey h3 H H2 v H' hA h
          · cases h
        · cases h
      · cases h
    · cases h
  | move x => exact loc_setH fun H H2 hA => rfl
  | assign x => exact loc_setH fun H H2 hA => rfl
  | pick c x y => exact loc_setH fun H H2 hA => by simp only [opRes, aop]; split <;> rfl
  | alloc t =>
    intro H H2 v H' hA h
    simp only [opRes, aop] at h ⊢
    split at h
    · obtain ⟨rfl, rfl⟩ := h
      exact ⟨_, ⟨rfl, rfl⟩, hA.patch.setVar hk0 _⟩
    · cases h
  | box t x =>
    intro H H2 v H' hA h
    simp only [opRes, aop] at h ⊢
    split at h
    · obtain ⟨rfl, rfl⟩ := h
      exact ⟨_, ⟨rfl, rfl⟩, hA.patch.setVar hk0 _⟩
    · cases h
  | build t ps =>
    exact loc_setH fun H H2 hA => by
      simp only [opRes, aop]
      repeat' (split <;> first | rfl | contradiction | skip)
  | buildSlice t n ps =>
    have ek : ∀ k ∈ keysOf T (ps.toList.map (·.2)), Own T (.buildSlice t n ps) key k := fun k hk => .inl (by show k ∈ keysOf T (Op.buildSlice t n ps).operands.toList; simpa [Op.operands] using hk)
    intro H H2 v H' hA h
    have e := fun u xs => fillV_agree hA (T := T) (u := u) (l := ps.toList) (xs := xs) ek
    simp only [opRes, aop, e] at h ⊢
    split at h
    · split at h
      · split at h
        · obtain ⟨rfl, rfl⟩ := h
          exact ⟨_, ⟨rfl, rfl⟩, (hA.patch.freeze fun k hk => ek k (rowsOfs_keys hk)).setRow hk0 _⟩
        · cases h
      · cases h
    · cases h
  | load t x => exact loc_setH fun H H2 hA => loadV_agree hA (own rfl x (by simp [Op.operands]))
  | store t p x => exact store_loc hkey (own rfl x (by simp [Op.operands])) (own rfl p (by simp [Op.operands]))
  | nilCheck x =>
    have hx := own rfl x (by simp [Op.operands])
    exact loc_setH fun H H2 hA => by
      simp only [opRes, aop]
      cases he : evO T x with
      | pvar k p =>
        have hk := (hA k (hx k (by rw [he]; simp [V.keys]))).1
        simp only [hk]
        split <;> rfl
      | prow k i p =>
        have hk := (hA k (hx k (by rw [he]; simp [V.keys]))).2
        simp only [hk]
        split <;> rfl
      | _ => rfl
  | binOp op t x y c => exact loc_setH fun H H2 hA => binV_agree hA (own rfl x (by simp [Op.operands])) (own rfl y (by simp [Op.operands]))
  | unOp op t x => exact loc_setH fun H H2 hA => unV_agree hA
  | convert a b x =>
    exact loc_setH fun H H2 hA => by
      simp only [opRes, aop]
      repeat' (split <;> first | rfl | contradiction | skip)
  | makeFunc f p q =>
    cases f with
    | func f =>
      exact loc_setH fun H H2 hA => by
        simp only [opRes, aop]
        split <;> rfl
    | _ => exact loc_setH fun H H2 hA => rfl
  | makeSlice t l c =>
    intro H H2 v H' hA h
    simp only [opRes, aop] at h ⊢
    split at h
    · split at h
      · split at h
        · split at h
          · rcases h with ⟨c1, h⟩ | ⟨_, h⟩
            · rcases h with ⟨c2, h⟩ | ⟨_, h⟩
              · rcases h with ⟨c3, rfl, rfl⟩ | ⟨_, h⟩
                · exact ⟨_, .inl ⟨c1, .inl ⟨c2, .inl ⟨c3, rfl, rfl⟩⟩⟩, hA.patch.setRow hk0 _⟩
                · cases h
              · cases h
            · cases h
          · cases h
        · cases h
      · cases h
    · cases h
  | slice t x lo hi mx =>
    have hx := own rfl x (by simp [Op.operands])
    exact loc_setH fun H H2 hA => by
      have e := fun full l h' => cutV_agree hA (full := full) (l := l) (h' := h') hx
      simp only [opRes, aop, lenV_agree hA hx, fitsZ_agree hA hx, e]
      repeat' (split <;> first | rfl | contradiction | skip)
  | fieldAddr t x f => exact loc_setH fun H H2 hA => fieldV_agree hA (own rfl x (by simp [Op.operands]))
  | indexAddr t x i =>
    exact loc_setH fun H H2 hA => by
      simp only [opRes, aop]
      split
      · exact indexV_agree hA (own rfl x (by simp [Op.operands]))
      · rfl
  | index t x i =>
    exact loc_setH fun H H2 hA => by
      simp only [opRes, aop]
      repeat' (split <;> first | rfl | contradiction | skip)
  | extract x i =>
    exact loc_setH fun H H2 hA => by
      simp only [opRes, aop]
      repeat' (split <;> first | rfl | contradiction | skip)
  | _ => intro H H2 v H' hA h; cases h
end
end Go.Proofs.YtdfhopakojmjkaaDoor.Den
