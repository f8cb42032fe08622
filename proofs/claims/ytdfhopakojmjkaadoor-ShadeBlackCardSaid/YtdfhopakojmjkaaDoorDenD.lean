/- Paths in values, and cells that are read and written. -/
import Derived.Test.YtdfhopakojmjkaaDoorDenC
namespace Go.Proofs.YtdfhopakojmjkaaDoor.Den
open Go Go.RowKit
set_option linter.unusedVariables false

/-- Cells o and so on are turned. -/
def splice (cs : List Value) (o : Nat) (vs : List Value) : List Value := cs.take o ++ vs ++ cs.drop (o + vs.length)
theorem splice_len {cs vs : List Value} {o : Nat} (h : o + vs.length ≤ cs.length) : (splice cs o vs).length = cs.length := by
  simp [splice]; omega
theorem splice_get {cs vs : List Value} {o : Nat} (h : o + vs.length ≤ cs.length) (j : Nat) : (splice cs o vs)[j]? = if o ≤ j ∧ j < o + vs.length then vs[j - o]? else cs[j]? := by
  unfold splice
  by_cases h1 : j < o
  · rw [if_neg (by omega), List.append_assoc, List.getElem?_append_left (by simp; omega), List.getElem?_take, if_pos h1]
  · by_cases h2 : j < o + vs.length
    · rw [if_pos (by omega), List.append_assoc, List.getElem?_append_right (by simp; omega), List.getElem?_append_left (by simp; omega)]
      congr 1
      simp; omega
    · rw [if_neg (by omega), List.getElem?_append_right (by simp; omega), List.getElem?_drop]
      congr 1
      simp; omega
theorem splice_app_left {a b vs : List Value} {o : Nat} (h : o + vs.length ≤ a.length) : splice (a ++ b) o vs = splice a o vs ++ b := by
  unfold splice
  rw [List.take_append_of_le_length (by omega), List.drop_append_of_le_length (by omega)]
  simp only [List.append_assoc]
theorem splice_app_right {a b vs : List Value} {o : Nat} : splice (a ++ b) (a.length + o) vs = a ++ splice b o vs := by
  unfold splice
  rw [List.take_length_add_append, Nat.add_assoc, List.drop_length_add_append]
  simp
theorem splice_all {cs vs : List Value} (h : vs.length = cs.length) : splice cs 0 vs = vs := by
  unfold splice; simp [h]
theorem drop_take_app_left {a b : List Value} {o n : Nat} (h : o + n ≤ a.length) : ((a ++ b).drop o).take n = (a.drop o).take n := by
  rw [List.drop_append_of_le_length (by omega), List.take_append_of_le_length (by simp; omega)]
theorem drop_take_app_right {a b : List Value} {o n : Nat} : ((a ++ b).drop (a.length + o)).take n = (b.drop o).take n := by
  rw [List.drop_length_add_append]

/-! ### paths in codes -/
theorem dcode_off : ∀ {u : U} {p : List Step} {v : U} {o : Nat}, dcode u p = some v → u.off p = some o → o + v.size ≤ u.size
  | u, [], v, o, h, ho => by
    have : u = v := by cases u <;> simpa [dcode] using h
    subst this
    have : 0 = o := by cases u <;> simpa [U.off] using ho
    omega
  | .cons a b, .fld 0 :: p, v, o, h, ho => by
    have := dcode_off (u := a) h ho
    simp [U.size]; omega
  | .cons a b, .fld (n + 1) :: p, v, o, h, ho => by
    simp only [U.off] at ho
    cases hb : b.off (.fld n :: p) with
    | none => rw [hb] at ho; cases ho
    | some o' =>
      rw [hb] at ho
      injection ho with ho
      have := dcode_off (u := b) h hb
      simp [U.size]; omega
  | .arr n u, .idx i :: p, v, o, h, ho => by
    simp only [U.off] at ho
    cases hb : u.off p with
    | none => rw [hb] at ho; cases ho
    | some o' =>
      rw [hb] at ho
      simp only at ho
      by_cases hi : i < n
      · rw [if_pos hi] at ho
        injection ho with ho
        have := dcode_off (u := u) h hb
        have h2 : (i + 1) * u.size ≤ n * u.size := Nat.mul_le_mul_right _ hi
        rw [Nat.succ_mul] at h2
        simp [U.size]; omega
      · rw [if_neg hi] at ho; cases ho
  | .int _, _ :: _, _, _, h, _ => by simp [dcode] at h
  | .bool, _ :: _, _, _, h, _ => by simp [dcode] at h
  | .sl _, _ :: _, _, _, h, _ => by simp [dcode] at h
  | .nil, _ :: _, _, _, h, _ => by simp [dcode] at h
  | .cons _ _, .idx _ :: _, _, _, h, _ => by simp [dcode] at h
  | .arr _ _, .fld _ :: _, _, _, h, _ => by simp [dcode] at h

theorem dget_nil {u : U} {x : u.T} : dget u x [] = some ⟨u, x⟩ := by cases u <;> rfl
theorem sk_off : ∀ (u : U) (p : List Step), u.sk.off p = u.off p
  | .int _, [] => rfl
  | .int _, _ :: _ => by simp [U.sk, U.off]
  | .bool, _ => rfl
  | .sl _, [] => rfl
  | .sl _, _ :: _ => by simp [U.sk, U.off]
  | .nil, _ => rfl
  | .cons a b, [] => rfl
  | .cons a b, .fld 0 :: p => sk_off a p
  | .cons a b, .fld (n + 1) :: p => by simp [U.sk, U.off, sk_off b, U.sk_size]
  | .cons a b, .idx _ :: p => rfl
  | .arr n u, [] => rfl
  | .arr n u, .idx i :: p => by simp [U.sk, U.off, sk_off u, U.sk_size]
  | .arr n u, .fld 0 :: p => rfl
  | .arr n u, .fld (_ + 1) :: p => rfl

section
variable {W : World} {I : Nat → Prop}
/-- What lies at a path. -/
theorem dget_rel : ∀ {u : U} {x : u.T} {p : List Step} {v : U} {y : v.T} {cs : List Value} {o : Nat}, dget u x p = some ⟨v, y⟩ → RelD W I u x cs → u.off p = some o →
    dcode u p = some v ∧ RelD W I v y ((cs.drop o).take v.size)
  | u, x, [], v, y, cs, o, h, hr, ho => by
    rw [dget_nil] at h
    injection h with h
    cases h
    have : 0 = o := by cases u <;> simpa [U.off] using ho
    subst this
    refine ⟨by cases u <;> rfl, ?_⟩
    rw [List.drop_zero, ← hr.len, List.take_length]
    exact hr
  | .cons a b, x, .fld 0 :: p, v, y, cs, o, h, hr, ho => by
    obtain ⟨c1, c2, rfl, h1, h2⟩ := hr
    obtain ⟨g1, g2⟩ := dget_rel (u := a) h h1 ho
    have := dcode_off g1 ho
    refine ⟨g1, ?_⟩
    rw [drop_take_app_left (by rw [h1.len]; omega)]
    exact g2
  | .cons a b, x, .fld (n + 1) :: p, v, y, cs, o, h, hr, ho => by
    obtain ⟨c1, c2, rfl, h1, h2⟩ := hr
    simp only [U.off] at ho
    cases hb : b.off (.fld n :: p) with
    | none => rw [hb] at ho; cases ho
    | some o' =>
      rw [hb] at ho
      injection ho with ho
      subst ho
      obtain ⟨g1, g2⟩ := dget_rel (u := b) h h2 hb
      refine ⟨g1, ?_⟩
      rw [← h1.len, drop_take_app_right]
      exact g2
  | .arr n u, xs, .idx i :: p, v, y, cs, o, h, hr, ho => by
    obtain ⟨hl, hc, hx⟩ := hr
    simp only [U.off] at ho
    cases hb : u.off p with
    | none => rw [hb] at ho; cases ho
    | some o' =>
      rw [hb] at ho
      simp only at ho
      by_cases hi : i < n
      · rw [if_pos hi] at ho
        injection ho with ho
        subst ho
        have hxi : xs[i]? = some (xs.getD i u.zero) := by
          rw [List.getD_eq_getElem?_getD, List.getElem?_eq_getElem (by omega)]; rfl
        obtain ⟨g1, g2⟩ := dget_rel (u := u) h (hx i _ hxi) hb
        have := dcode_off g1 hb
        refine ⟨g1, ?_⟩
        rw [List.drop_take, List.drop_drop, List.take_take, Nat.min_eq_left (by omega)] at g2
        exact g2
      · rw [if_neg hi] at ho; cases ho
  | .int _, _, _ :: _, _, _, _, _, h, _, _ => by simp [dget] at h
  | .bool, _, _ :: _, _, _, _, _, h, _, _ => by simp [dget] at h
  | .sl _, _, _ :: _, _, _, _, _, h, _, _ => by simp [dget] at h
  | .nil, _, _ :: _, _, _, _, _, h, _, _ => by simp [dget] at h
  | .cons _ _, _, .idx _ :: _, _, _, _, _, h, _, _ => by simp [dget] at h
  | .arr _ _, _, .fld _ :: _, _, _, _, _, h, _, _ => by simp [dget] at h

/-- What lies at a path is turned. -/
theorem dset_rel : ∀ {u : U} {x : u.T} {p : List Step} {v : U} {y : v.T} {z : u.T} {cs vs : List Value} {o : Nat}, dset u x p v y = some z → RelD W I u x cs → RelD W I v y vs → dcode u p = some v → u.off p = some o →
    RelD W I u z (splice cs o vs)
  | u, x, [], v, y, z, cs, vs, o, h, hr, hv, hd, ho => by
    have : u = v := by cases u <;> simpa [dcode] using hd
    subst this
    have h0 : 0 = o := by cases u <;> simpa [U.off] using ho
    subst h0
    have hz : castT u y = some z := by cases u <;> simpa [dset] using h
    obtain ⟨e, he⟩ := castT_some hz
    have : y = z := by simpa using he
    subst this
    rw [splice_all (by rw [hv.len, hr.len])]
    exact hv
  | .cons a b, x, .fld 0 :: p, v, y, z, cs, vs, o, h, hr, hv, hd, ho => by
    obtain ⟨c1, c2, rfl, h1, h2⟩ := hr
    simp only [dset] at h
    cases hz : dset a x.1 p v y with
    | none => rw [hz] at h; cases h
    | some w =>
      rw [hz] at h
      injection h with h
      subst h
      have g := dset_rel (u := a) hz h1 hv hd ho
      have := dcode_off (u := a) hd ho
      rw [splice_app_left (by rw [hv.len, h1.len]; omega)]
      exact ⟨_, _, rfl, g, h2⟩
  | .cons a b, x, .fld (n + 1) :: p, v, y, z, cs, vs, o, h, hr, hv, hd, ho => by
    obtain ⟨c1, c2, rfl, h1, h2⟩ := hr
    simp only [dset] at h
    simp only [U.off] at ho
    cases hb : b.off (.fld n :: p) with
    | none => rw [hb] at ho; cases ho
    | some o' =>
      rw [hb] at ho
      injection ho with ho
      subst ho
      cases hz : dset b x.2 (.fld n :: p) v y with
      | none => rw [hz] at h; cases h
      | some w =>
        rw [hz] at h
        injection h with h
        subst h
        have g := dset_rel (u := b) hz h2 hv hd hb
        rw [← h1.len, splice_app_right]
        exact ⟨_, _, rfl, h1, g⟩
  | .arr n u, xs, .idx i :: p, v, y, z, cs, vs, o, h, hr, hv, hd, ho => by
    obtain ⟨hl, hc, hx⟩ := hr
    simp only [dset] at h
    simp only [U.off] at ho
    cases hb : u.off p with
    | none => rw [hb] at ho; cases ho
    | some o' =>
      rw [hb] at ho
      simp only at ho
      by_cases hi : i < n
      · rw [if_pos hi] at ho
        injection ho with ho
        subst ho
        cases hz : dset u (xs.getD i u.zero) p v y with
        | none => rw [hz] at h; cases h
        | some w =>
          rw [hz] at h
          injection h with h
          subst h
          have hxi : xs[i]? = some (xs.getD i u.zero) := by
            rw [List.getD_eq_getElem?_getD, List.getElem?_eq_getElem (by omega)]; rfl
          have g := dset_rel (u := u) hz (hx i _ hxi) hv hd hb
          have hdo := dcode_off (u := u) hd hb
          have h2 : (i + 1) * u.size ≤ n * u.size := Nat.mul_le_mul_right _ hi
          rw [Nat.succ_mul] at h2
          have hvl := hv.len
          refine ⟨by simp [hl], by rw [splice_len (by omega), hc], fun j x' hj => ?_⟩
          by_cases hij : j = i
          · subst hij
            have hjl : j < xs.length := by omega
            rw [List.getElem?_set_self hjl] at hj
            injection hj with hj
            subst hj
            have e : ((splice cs (j * u.size + o') vs).drop (j * u.size)).take u.size = splice ((cs.drop (j * u.size)).take u.size) o' vs := by
              apply List.ext_getElem?
              intro q
              rw [splice_get (by simp; omega), List.getElem?_take, List.getElem?_take, List.getElem?_drop, List.getElem?_drop, splice_get (by omega)]
              by_cases hq : q < u.size
              · rw [if_pos hq, if_pos hq]
                by_cases h3 : o' ≤ q ∧ q < o' + vs.length
                · rw [if_pos h3, if_pos (by omega)]
                  congr 1
                  omega
                · rw [if_neg h3, if_neg (by omega)]
              · rw [if_neg hq, if_neg hq, if_neg (by omega)]
            rw [e]
            exact g
          · have hjl : j < xs.length := by
              have := (List.getElem?_eq_some_iff.1 hj).1
              simpa using this
            rw [List.getElem?_set_ne (Ne.symm hij)] at hj
            have e : ((splice cs (i * u.size + o') vs).drop (j * u.size)).take u.size = (cs.drop (j * u.size)).take u.size := by
              apply List.ext_getElem?
              intro q
              rw [List.getElem?_take, List.getElem?_take, List.getElem?_drop, List.getElem?_drop, splice_get (by omega)]
              by_cases hq : q < u.size
              · rw [if_pos hq, if_pos hq, if_neg]
                rintro ⟨q1, q2⟩
                rcases Nat.lt_or_gt_of_ne hij with hlt | hlt
                · have : (j + 1) * u.size ≤ i * u.size := Nat.mul_le_mul_right _ hlt
                  rw [Nat.succ_mul] at this
                  omega
                · have : (i + 1) * u.size ≤ j * u.size := Nat.mul_le_mul_right _ hlt
                  rw [Nat.succ_mul] at this
                  omega
              · rw [if_neg hq, if_neg hq]
            rw [e]
            exact hx j x' hj
      · rw [if_neg hi] at ho; cases ho
  | .int _, _, _ :: _, _, _, _, _, _, _, _, _, _, h, _ => by simp [dcode] at h
  | .bool, _, _ :: _, _, _, _, _, _, _, _, _, _, h, _ => by simp [dcode] at h
  | .sl _, _, _ :: _, _, _, _, _, _, _, _, _, _, h, _ => by simp [dcode] at h
  | .nil, _, _ :: _, _, _, _, _, _, _, _, _, _, h, _ => by simp [dcode] at h
  | .cons _ _, _, .idx _ :: _, _, _, _, _, _, _, _, _, _, h, _ => by simp [dcode] at h
  | .arr _ _, _, .fld _ :: _, _, _, _, _, _, _, _, _, _, h, _ => by simp [dcode] at h
end

/-! ### paths in values -/
/-- The shape at a path. -/
def skat : U → List Step → Option U := dcode
theorem sk_dcode : ∀ (u : U) (p : List Step), dcode u.sk p = (dcode u p).map U.sk
  | .int _, [] => rfl
  | .int _, _ :: _ => by simp [U.sk, dcode]
  | .bool, [] => rfl
  | .bool, _ :: _ => by simp [U.sk, dcode]
  | .sl _, [] => rfl
  | .sl _, _ :: _ => by simp [U.sk, dcode]
  | .nil, [] => rfl
  | .nil, _ :: _ => by simp [U.sk, dcode]
  | .cons a b, [] => rfl
  | .cons a b, .fld 0 :: p => sk_dcode a p
  | .cons a b, .fld (n + 1) :: p => sk_dcode b (.fld n :: p)
  | .cons a b, .idx _ :: p => rfl
  | .arr n u, [] => rfl
  | .arr n u, .idx i :: p => sk_dcode u p
  | .arr n u, .fld 0 :: p => rfl
  | .arr n u, .fld (_ + 1) :: p => rfl

theorem V.get_nil {v : V} : v.get [] = some v := by cases v <;> rfl
theorem dcode_nil {u : U} : dcode u [] = some u := by cases u <;> rfl
theorem off_nil {u : U} : u.off [] = some 0 := by cases u <;> rfl

theorem get_rel {s : S4} : ∀ {c : V} {p : List Step} {v : V} {cs : List Value} {o : Nat}, c.get p = some v → RelC s c cs → c.sk.off p = some o →
    dcode c.sk p = some v.sk ∧ RelC s v ((cs.drop o).take v.size) := by
  intro c
  induction c with
  | d u x =>
    intro p v cs o h hr ho
    simp only [RelC] at hr
    simp only [V.sk, sk_off] at ho
    simp only [V.sk, sk_dcode]
    cases p with
    | nil =>
      rw [V.get_nil] at h
      injection h with h
      subst h
      rw [off_nil] at ho
      injection ho with ho
      subst ho
      refine ⟨by rw [dcode_nil]; rfl, ?_⟩
      simp only [RelC, V.size, V.sk, U.sk_size, List.drop_zero]
      rw [← hr.len, List.take_length]
      exact hr
    | cons a p =>
      simp only [V.get] at h
      cases hd : dget u x (a :: p) with
      | none => rw [hd] at h; cases h
      | some q =>
        obtain ⟨w, y⟩ := q
        rw [hd] at h
        injection h with h
        subst h
        obtain ⟨g1, g2⟩ := dget_rel hd hr ho
        refine ⟨by rw [g1]; rfl, ?_⟩
        simp only [RelC, V.size, V.sk, U.sk_size]
        exact g2
  | cons a b iha ihb =>
    intro p v cs o h hr ho
    cases p with
    | nil =>
      rw [V.get_nil] at h
      injection h with h
      subst h
      rw [off_nil] at ho
      injection ho with ho
      subst ho
      refine ⟨dcode_nil, ?_⟩
      rw [List.drop_zero, ← hr.len, List.take_length]
      exact hr
    | cons q p =>
      have hr' := hr
      simp only [RelC] at hr'
      obtain ⟨c1, c2, rfl, h1, h2⟩ := hr'
      cases q with
      | idx i => simp [V.get] at h
      | fld n =>
        cases n with
        | zero =>
          simp only [V.get] at h
          simp only [V.sk, U.off] at ho
          obtain ⟨g1, g2⟩ := iha h h1 ho
          have hdo := dcode_off g1 ho
          have hl := h1.len
          refine ⟨g1, ?_⟩
          rw [drop_take_app_left (by unfold V.size at hl ⊢; omega)]
          exact g2
        | succ n =>
          simp only [V.get] at h
          simp only [V.sk, U.off] at ho
          cases hb : b.sk.off (.fld n :: p) with
          | none => rw [hb] at ho; cases ho
          | some o' =>
            rw [hb] at ho
            injection ho with ho
            subst ho
            obtain ⟨g1, g2⟩ := ihb h h2 hb
            refine ⟨g1, ?_⟩
            have hl := h1.len
            unfold V.size at hl
            rw [← hl, drop_take_app_right]
            exact g2
  | _ =>
    intro p v cs o h hr ho
    cases p with
    | nil =>
      rw [V.get_nil] at h
      injection h with h
      subst h
      rw [off_nil] at ho
      injection ho with ho
      subst ho
      refine ⟨dcode_nil, ?_⟩
      rw [List.drop_zero, ← hr.len, List.take_length]
      exact hr
    | cons q p => simp [V.get] at h

theorem dsetV_rel {s : S4} : ∀ {u : U} {x : u.T} {p : List Step} {v c' : V} {cs vs : List Value} {o : Nat}, dsetV u x p v = some c' → RelD s.W s.I u x cs → RelC s v vs → u.off p = some o → dcode u.sk p = some v.sk →
    c'.sk = u.sk ∧ RelC s c' (splice cs o vs)
  | u, x, [], v, c', cs, vs, o, h, hr, hv, ho, hd => by
    have hc : v = c' := by cases u <;> simpa [dsetV] using h
    subst hc
    rw [off_nil] at ho
    injection ho with ho
    subst ho
    rw [dcode_nil] at hd
    injection hd with hd
    refine ⟨hd.symm, ?_⟩
    rw [splice_all]
    · exact hv
    · rw [hv.len, hr.len]
      unfold V.size
      rw [← hd, U.sk_size]
  | .cons a b, x, .fld 0 :: p, v, c', cs, vs, o, h, hr, hv, ho, hd => by
    obtain ⟨c1, c2, rfl, h1, h2⟩ := hr
    simp only [dsetV] at h
    cases hz : dsetV a x.1 p v with
    | none => rw [hz] at h; cases h
    | some w =>
      rw [hz] at h
      injection h with h
      subst h
      obtain ⟨g1, g2⟩ := dsetV_rel (u := a) hz h1 hv ho hd
      have hdo := dcode_off (u := a.sk) hd (by rw [sk_off]; exact ho)
      rw [U.sk_size] at hdo
      have hvl := hv.len
      unfold V.size at hvl
      refine ⟨by simp [V.sk, g1, U.sk], ?_⟩
      rw [splice_app_left (by rw [h1.len]; omega)]
      simp only [RelC]
      exact ⟨_, _, rfl, g2, h2⟩
  | .cons a b, x, .fld (n + 1) :: p, v, c', cs, vs, o, h, hr, hv, ho, hd => by
    obtain ⟨c1, c2, rfl, h1, h2⟩ := hr
    simp only [dsetV] at h
    simp only [U.off] at ho
    cases hb : b.off (.fld n :: p) with
    | none => rw [hb] at ho; cases ho
    | some o' =>
      rw [hb] at ho
      injection ho with ho
      subst ho
      cases hz : dsetV b x.2 (.fld n :: p) v with
      | none => rw [hz] at h; cases h
      | some w =>
        rw [hz] at h
        injection h with h
        subst h
        obtain ⟨g1, g2⟩ := dsetV_rel (u := b) hz h2 hv hb hd
        refine ⟨by simp [V.sk, g1, U.sk], ?_⟩
        rw [← h1.len, splice_app_right]
        simp only [RelC]
        exact ⟨_, _, rfl, h1, g2⟩
  | .arr n u, xs, .idx i :: p, .d v y, c', cs, vs, o, h, hr, hv, ho, hd => by
    simp only [dsetV] at h
    cases hz : dset u (xs.getD i u.zero) p v y with
    | none => rw [hz] at h; cases h
    | some w =>
      rw [hz] at h
      injection h with h
      subst h
      refine ⟨rfl, ?_⟩
      simp only [RelC] at hv ⊢
      have hdc : dcode u p = some v := by
        have : ∀ (u : U) (x : u.T) (p : List Step) (v : U) (y : v.T) (z : u.T), dset u x p v y = some z → dcode u p = some v := by
          intro u
          induction u with
          | cons a b iha ihb =>
            intro x p v y z h
            match p with
            | [] =>
              obtain ⟨e, _⟩ := castT_some (by simpa [dset] using h)
              rw [dcode_nil, e]
            | .fld 0 :: p =>
              simp only [dset] at h
              cases hh : dset a x.1 p v y with
              | none => rw [hh] at h; cases h
              | some w => exact iha _ _ _ _ _ hh
            | .fld (n + 1) :: p =>
              simp only [dset] at h
              cases hh : dset b x.2 (.fld n :: p) v y with
              | none => rw [hh] at h; cases h
              | some w => exact ihb _ _ _ _ _ hh
            | .idx i :: p => simp [dset] at h
          | arr n u ih =>
            intro x p v y z h
            match p with
            | [] =>
              obtain ⟨e, _⟩ := castT_some (by simpa [dset] using h)
              rw [dcode_nil, e]
            | .idx i :: p =>
              simp only [dset] at h
              cases hh : dset u (List.getD x i u.zero) p v y with
              | none => rw [hh] at h; cases h
              | some w => exact ih _ _ _ _ _ hh
            | .fld i :: p => simp [dset] at h
          | _ =>
            intro x p v y z h
            match p with
            | [] =>
              obtain ⟨e, _⟩ := castT_some (by simpa [dset] using h)
              rw [dcode_nil, e]
            | _ :: p => simp [dset] at h
        exact this _ _ _ _ _ _ hz
      exact dset_rel (u := .arr n u) (by simp only [dset]; rw [hz]) hr hv (by simpa [dcode] using hdc) ho
  | .arr n u, xs, .idx i :: p, .cons _ _, c', cs, vs, o, h, _, _, _, _ => by simp [dsetV] at h
  | .arr n u, xs, .idx i :: p, .nil, c', cs, vs, o, h, _, _, _, _ => by simp [dsetV] at h
  | .arr n u, xs, .idx i :: p, .nilsl, c', cs, vs, o, h, _, _, _, _ => by simp [dsetV] at h
  | .arr n u, xs, .idx i :: p, .dfull _ _, c', cs, vs, o, h, _, _, _, _ => by simp [dsetV] at h
  | .arr n u, xs, .idx i :: p, .row _, c', cs, vs, o, h, _, _, _, _ => by simp [dsetV] at h
  | .arr n u, xs, .idx i :: p, .rsub _ _ _, c', cs, vs, o, h, _, _, _, _ => by simp [dsetV] at h
  | .arr n u, xs, .idx i :: p, .pvar _ _, c', cs, vs, o, h, _, _, _, _ => by simp [dsetV] at h
  | .arr n u, xs, .idx i :: p, .prow _ _ _, c', cs, vs, o, h, _, _, _, _ => by simp [dsetV] at h
  | .arr n u, xs, .idx i :: p, .pdeep _ _, c', cs, vs, o, h, _, _, _, _ => by simp [dsetV] at h
  | .arr n u, xs, .idx i :: p, .fn _ _ _, c', cs, vs, o, h, _, _, _, _ => by simp [dsetV] at h
  | .arr n u, xs, .idx i :: p, .tup _, c', cs, vs, o, h, _, _, _, _ => by simp [dsetV] at h
  | .arr n u, xs, .idx i :: p, .undef, c', cs, vs, o, h, _, _, _, _ => by simp [dsetV] at h
  | .int _, _, _ :: _, _, _, _, _, _, h, _, _, _, _ => by simp [dsetV] at h
  | .bool, _, _ :: _, _, _, _, _, _, h, _, _, _, _ => by simp [dsetV] at h
  | .sl _, _, _ :: _, _, _, _, _, _, h, _, _, _, _ => by simp [dsetV] at h
  | .nil, _, _ :: _, _, _, _, _, _, h, _, _, _, _ => by simp [dsetV] at h
  | .cons _ _, _, .idx _ :: _, _, _, _, _, _, h, _, _, _, _ => by simp [dsetV] at h
  | .arr _ _, _, .fld _ :: _, _, _, _, _, _, h, _, _, _, _ => by simp [dsetV] at h

theorem V.set_nil {c v : V} : c.set [] v = some v := by cases c <;> rfl
theorem set_rel {s : S4} : ∀ {c : V} {p : List Step} {v c' : V} {cs vs : List Value} {o : Nat}, c.set p v = some c' → RelC s c cs → RelC s v vs → c.sk.off p = some o → dcode c.sk p = some v.sk →
    c'.sk = c.sk ∧ RelC s c' (splice cs o vs) := by
  intro c
  induction c with
  | d u x =>
    intro p v c' cs vs o h hr hv ho hd
    simp only [RelC] at hr
    simp only [V.sk, sk_off] at ho
    have h' : dsetV u x p v = some c' := by
      cases p with
      | nil => rw [V.set_nil] at h; cases u <;> simpa [dsetV] using h
      | cons a p => simpa [V.set] using h
    exact dsetV_rel h' hr hv ho hd
  | cons a b iha ihb =>
    intro p v c' cs vs o h hr hv ho hd
    cases p with
    | nil =>
      rw [V.set_nil] at h
      injection h with h
      subst h
      rw [off_nil] at ho
      injection ho with ho
      subst ho
      rw [dcode_nil] at hd
      injection hd with hd
      refine ⟨hd.symm, ?_⟩
      rw [splice_all]
      · exact hv
      · rw [hv.len, hr.len]
        unfold V.size
        rw [hd]
    | cons q p =>
      have hr' := hr
      simp only [RelC] at hr'
      obtain ⟨c1, c2, rfl, h1, h2⟩ := hr'
      cases q with
      | idx i => simp [V.set] at h
      | fld n =>
        cases n with
        | zero =>
          simp only [V.set] at h
          simp only [V.sk, U.off] at ho
          cases hz : a.set p v with
          | none => rw [hz] at h; cases h
          | some w =>
            rw [hz] at h
            injection h with h
            subst h
            have hd' : dcode a.sk p = some v.sk := hd
            obtain ⟨g1, g2⟩ := iha hz h1 hv ho hd'
            have hdo := dcode_off hd' ho
            have hl := h1.len
            have hvl := hv.len
            unfold V.size at hl hvl
            refine ⟨by simp [V.sk, g1], ?_⟩
            rw [splice_app_left (by omega)]
            simp only [RelC]
            exact ⟨_, _, rfl, g2, h2⟩
        | succ n =>
          simp only [V.set] at h
          simp only [V.sk, U.off] at ho
          cases hb : b.sk.off (.fld n :: p) with
          | none => rw [hb] at ho; cases ho
          | some o' =>
            rw [hb] at ho
            injection ho with ho
            subst ho
            cases hz : b.set (.fld n :: p) v with
            | none => rw [hz] at h; cases h
            | some w =>
              rw [hz] at h
              injection h with h
              subst h
              have hd' : dcode b.sk (.fld n :: p) = some v.sk := hd
              obtain ⟨g1, g2⟩ := ihb hz h2 hv hb hd'
              have hl := h1.len
              unfold V.size at hl
              refine ⟨by simp [V.sk, g1], ?_⟩
              rw [← hl, splice_app_right]
              simp only [RelC]
              exact ⟨_, _, rfl, h1, g2⟩
  | _ =>
    intro p v c' cs vs o h hr hv ho hd
    cases p with
    | nil =>
      rw [V.set_nil] at h
      injection h with h
      subst h
      rw [off_nil] at ho
      injection ho with ho
      subst ho
      rw [dcode_nil] at hd
      injection hd with hd
      refine ⟨hd.symm, ?_⟩
      rw [splice_all]
      · exact hv
      · rw [hv.len, hr.len]
        unfold V.size
        rw [hd]
    | cons q p => simp [V.set] at h
end Go.Proofs.YtdfhopakojmjkaaDoor.Den
