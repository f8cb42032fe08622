/- The library, part Te: a run of the model, told by an evaluator, with its proof. -/
import Derived.Test.YtdokfjkihjkcmaaGreatDoorDenZ
import Derived.ChangeKeysEq
/- The loop's head and end; the walk of code; functions, whole. -/
namespace Go.Proofs.YtdokfjkihjkcmaaGreatDoor.Den
open Go Go.RowKit
set_option linter.unusedVariables false
set_option linter.unusedSectionVars false
theorem assoc_mem : ∀ {l : List (Nat × Nat)} {k k' : Nat}, assoc l k = some k' → (k, k') ∈ l
 | [], k, k', h => by simp [assoc] at h
 | (a, b) :: l, k, k', h => by
  simp only [assoc] at h
  cases e : Nat.beq a k with
  | true =>
   rw [e] at h
   have := nat_beq e
   subst this
   injection h with h
   subst h
   simp
  | false =>
   rw [e] at h
   exact List.mem_cons_of_mem _ (assoc_mem h)
theorem tabV_mem : ∀ {l : List (Nat × Option V)} {k : Nat} {v : V}, tabV l k = some v → (k, some v) ∈ l
 | [], k, v, h => by simp [tabV] at h
 | (a, b) :: l, k, v, h => by
  simp only [tabV] at h
  cases e : Nat.beq k a with
  | true =>
   rw [e] at h
   have := nat_beq e
   subst this
   have h : b = some v := h
   subst h
   simp
  | false =>
   rw [e] at h
   exact List.mem_cons_of_mem _ (tabV_mem h)
theorem tabR_mem : ∀ {l : List (Nat × Option Row)} {k : Nat} {v : Row}, tabR l k = some v → (k, some v) ∈ l
 | [], k, v, h => by simp [tabR] at h
 | (a, b) :: l, k, v, h => by
  simp only [tabR] at h
  cases e : Nat.beq k a with
  | true =>
   rw [e] at h
   have := nat_beq e
   subst this
   have h : b = some v := h
   subst h
   simp
  | false =>
   rw [e] at h
   exact List.mem_cons_of_mem _ (tabR_mem h)
theorem tabT_get (f : Nat → V) : ∀ (l : List Nat) (i : Nat), tabT (l.map fun i => (i, f i)) i = .undef ∨ tabT (l.map fun i => (i, f i)) i = f i
 | [], i => .inl rfl
 | a :: l, i => by
  simp only [List.map_cons, tabT]
  cases e : Nat.beq i a with
  | true =>
   have := nat_beq e
   subst this
   exact .inr rfl
  | false => exact tabT_get f l i
theorem number_mem : ∀ {ks : List Nat} {m k n : Nat}, (k, n) ∈ number ks m → ∃ j, ks[j]? = some k ∧ n = m + j
 | [], m, k, n, h => by simp [number] at h
 | a :: ks, m, k, n, h => by
  simp only [number, List.mem_cons] at h
  rcases h with h | h
  ·injection h with h1 h2
   subst h1 h2
   exact ⟨0, rfl, rfl⟩
  ·obtain ⟨j, h1, h2⟩ := number_mem h
   exact ⟨j + 1, by simpa using h1, by omega⟩
theorem normK_some {s : Sub} {H : HF} {k q : Nat} {c' : V} (h : normK s q (H.var k) = some c') : (∃ c, c' = c.norm s ∧ H.pv k = some c) ∨ ∃ v r xs q0, H.var k = some (.drow v r xs q0 none) ∧ c' = .drow v r xs q none := by
 unfold normK at h
 split at h
 ·rename_i v r xs q0 e
  injection h with h
  exact .inr ⟨v, r, xs, q0, e, h.symm⟩
 ·rename_i c _ hc
  refine .inl ?_
  cases hn : c.noH with
  | none => rw [hn] at h; cases h
  | some d =>
   rw [hn] at h
   injection h with h
   exact ⟨d, h.symm, by unfold HF.pv; rw [hc]; exact hn⟩
 ·cases h
def famOf (H : HF) (k : Nat) : Nat := match H.var k with
 | some (.drow _ _ _ q _) => q
 | _ => 0
theorem turn_of {s : S4} {sub : Sub} {base : Nat} {a : Canon} {ks vs : List Nat} (hk : ks.Nodup) (hv : vs.Nodup)
  (hkv : ∀ k ∈ a.keepV, k < a.n0 ∧ k ∉ vs) (hkr : ∀ k ∈ a.keepR, k < a.n0 ∧ k ∉ ks)
  (hsv : sub.var = a.keepV.map (fun k => (k, k)) ++ number vs (a.n0 + ks.length)) (hsr : sub.row = a.keepR.map (fun k => (k, k)) ++ number ks a.n0) (hsk : sub.kp = a.keepV) {H2 : HF} (hd0 : ∀ k v r xs q ho, s.H.var k = some (.drow v r xs q ho) → s.H.row k = none)
  (hV : H2.var = tabV (a.keepV.map (fun k => (k, normK sub (a.n0 + ks.length + vs.length + k) (s.H.var k))) ++ (number vs (a.n0 + ks.length)).map fun x => (x.2, normO sub (s.H.pv x.1))))
  (hR : H2.row = tabR (a.keepR.map (fun k => (k, s.H.row k)) ++ (number ks a.n0).map fun x => (x.2, s.H.row x.1)))
  (hN : H2.nx = a.n0 + ks.length + vs.length + (bif a.keepV.any (fun k => isDr (s.H.var k)) then a.n0 else 0)) (hD : H2.dn = s.H.dn) :
  Turn s sub H2 (fun k => if k < a.n0 then k else vs.getD (k - (a.n0 + ks.length)) 0) (fun k => if k < a.n0 then k else ks.getD (k - a.n0) 0) (fun q => if q < a.n0 then q else famOf s.H (q - (a.n0 + ks.length + vs.length))) (fun k => (k < a.n0 ∧ s.U k) ∨ (a.n0 ≤ k ∧ k < H2.nx)) := by
 have hN1 : a.n0 + ks.length + vs.length ≤ H2.nx := by omega
 have new : ∀ {l : List Nat} {j k : Nat}, l[j]? = some k → j < l.length ∧ l.getD j 0 = k := by
  intro l j k h
  exact ⟨(List.getElem?_eq_some_iff.1 h).1, by rw [List.getD_eq_getElem?_getD, h]; rfl⟩
 have row2 : ∀ k' r, H2.row k' = some r → (k' < a.n0 ∧ k' ∈ a.keepR ∧ s.H.row k' = some r) ∨ ∃ j k, ks[j]? = some k ∧ k' = a.n0 + j ∧ s.H.row k = some r := by
  intro k' r hr
  rw [hR] at hr
  rcases List.mem_append.1 (tabR_mem hr) with h | h
  ·obtain ⟨k, h1, h2⟩ := List.mem_map.1 h
   injection h2 with h2 h3
   subst h2
   exact .inl ⟨(hkr k h1).1, h1, h3⟩
  ·obtain ⟨⟨k, n⟩, h1, h2⟩ := List.mem_map.1 h
   injection h2 with h2 h3
   obtain ⟨j, g1, g2⟩ := number_mem h1
   exact .inr ⟨j, k, g1, by simp only at h2; omega, h3⟩
 have var2 : ∀ k' c', H2.var k' = some c' → (∃ c, c' = c.norm sub ∧ ((k' < a.n0 ∧ k' ∈ a.keepV ∧ s.H.pv k' = some c) ∨ ∃ j k, vs[j]? = some k ∧ k' = a.n0 + ks.length + j ∧ s.H.pv k = some c)) ∨
   (k' < a.n0 ∧ k' ∈ a.keepV ∧ ∃ v r xs q, s.H.var k' = some (.drow v r xs q none) ∧ c' = .drow v r xs (a.n0 + ks.length + vs.length + k') none) := by
  intro k' c' hc
  have un : ∀ {o : Option V}, normO sub o = some c' → ∃ c, c' = c.norm sub ∧ o = some c := by
   intro o ho
   cases o with
   | none => cases ho
   | some c => injection ho with ho; exact ⟨c, ho.symm, rfl⟩
  rw [hV] at hc
  rcases List.mem_append.1 (tabV_mem hc) with h | h
  ·obtain ⟨k, h1, h2⟩ := List.mem_map.1 h
   injection h2 with h2 h3
   subst h2
   rcases normK_some h3 with ⟨c, e1, e2⟩ | hd
   ·exact .inl ⟨c, e1, .inl ⟨(hkv k h1).1, h1, e2⟩⟩
   ·exact .inr ⟨(hkv k h1).1, h1, hd⟩
  ·obtain ⟨⟨k, n⟩, h1, h2⟩ := List.mem_map.1 h
   injection h2 with h2 h3
   obtain ⟨j, g1, g2⟩ := number_mem h1
   obtain ⟨c, e1, e2⟩ := un h3
   exact .inl ⟨c, e1, .inr ⟨j, k, g1, by simp only at h2; omega, e2⟩⟩
 have var3 : ∀ k' c', H2.var k' = some c' → (k' < a.n0 ∧ k' ∈ a.keepV) ∨ ∃ j k, vs[j]? = some k ∧ k' = a.n0 + ks.length + j := by
  intro k' c' hc
  rcases var2 k' c' hc with ⟨_, _, h | ⟨j, k, h1, h2, _⟩⟩ | h
  ·exact .inl ⟨h.1, h.2.1⟩
  ·exact .inr ⟨j, k, h1, h2⟩
  ·exact .inl ⟨h.1, h.2.1⟩
 refine ⟨fun k k' h => ?_, fun k k' h => ?_, fun k' r h => ?_, fun k h => ?_, fun k' c' h => ?_, hd0, fun k' _ h => ?_, fun k l r r' h1 h2 hne => ?_, fun k l c c' h1 h2 hne => ?_, ?_, hD⟩
 ·rw [hsr] at h
  rcases List.mem_append.1 (assoc_mem h) with h | h
  ·obtain ⟨q, h1, h2⟩ := List.mem_map.1 h
   injection h2 with h2 h3
   subst h2 h3
   have := (hkr _ h1).1
   exact ⟨if_pos this, fun hu => .inl ⟨this, hu⟩⟩
  ·obtain ⟨j, g1, rfl⟩ := number_mem h
   obtain ⟨n1, n2⟩ := new g1
   refine ⟨?_, fun _ => .inr (by omega)⟩
   show (if a.n0 + j < a.n0 then a.n0 + j else _) = k
   rw [if_neg (by omega), show a.n0 + j - a.n0 = j by omega]
   exact n2
 ·rw [hsv] at h
  rcases List.mem_append.1 (assoc_mem h) with h | h
  ·obtain ⟨q, h1, h2⟩ := List.mem_map.1 h
   injection h2 with h2 h3
   subst h2 h3
   have := (hkv _ h1).1
   exact ⟨if_pos this, fun hu => .inl ⟨this, hu⟩⟩
  ·obtain ⟨j, g1, rfl⟩ := number_mem h
   obtain ⟨n1, n2⟩ := new g1
   refine ⟨?_, fun _ => .inr (by omega)⟩
   show (if a.n0 + ks.length + j < a.n0 then _ else vs.getD (a.n0 + ks.length + j - (a.n0 + ks.length)) 0) = k
   rw [if_neg (by omega), show a.n0 + ks.length + j - (a.n0 + ks.length) = j by omega]
   exact n2
 ·rcases row2 k' r h with ⟨h1, h2, h3⟩ | ⟨j, k, h1, rfl, h3⟩
  ·simp only [if_pos h1]
   exact ⟨h3, fun hu => .inl ⟨h1, hu⟩⟩
  ·obtain ⟨n1, n2⟩ := new h1
   simp only [if_neg (show ¬ a.n0 + j < a.n0 by omega), show a.n0 + j - a.n0 = j by omega, n2]
   exact ⟨h3, fun _ => .inr (by omega)⟩
 ·rw [hsk] at h
  have := (hkv _ h).1
  exact ⟨if_pos this, fun hu => .inl ⟨this, hu⟩⟩
 ·rcases var2 k' c' h with ⟨c, e, h⟩ | ⟨h1, h2, v, r, xs, q, h3, e⟩
  ·refine .inl ⟨c, ?_⟩
   rcases h with ⟨h1, h2, h3⟩ | ⟨j, k, h1, rfl, h3⟩
   ·simp only [if_pos h1]
    exact ⟨h3, e, fun hu => .inl ⟨h1, hu⟩⟩
   ·obtain ⟨n1, n2⟩ := new h1
    simp only [if_neg (show ¬ a.n0 + ks.length + j < a.n0 by omega), show a.n0 + ks.length + j - (a.n0 + ks.length) = j by omega, n2]
    exact ⟨h3, e, fun _ => .inr (by omega)⟩
  ·refine .inr ⟨v, r, xs, q, a.n0 + ks.length + vs.length + k', h3, e, ?_, .inr ⟨by omega, ?_⟩, if_pos h1, if_pos h1, fun hu => .inl ⟨h1, hu⟩⟩
   ·show (if a.n0 + ks.length + vs.length + k' < a.n0 then _ else famOf s.H (a.n0 + ks.length + vs.length + k' - (a.n0 + ks.length + vs.length))) = q
    rw [if_neg (by omega), show a.n0 + ks.length + vs.length + k' - (a.n0 + ks.length + vs.length) = k' by omega]
    unfold famOf
    rw [h3]
   ·have : a.keepV.any (fun k => isDr (s.H.var k)) = true := List.any_eq_true.2 ⟨k', h2, by rw [h3]; rfl⟩
    rw [hN, this, cond_true]
    omega
 ·cases hr : H2.row k' with
  | none => rfl
  | some r =>
   rcases row2 k' r hr with ⟨h1, _, h3⟩ | ⟨j, k, h1, rfl, h3⟩
   ·simp only [if_pos h1] at h
    rw [h] at h3
    cases h3
   ·obtain ⟨n1, n2⟩ := new h1
    simp only [if_neg (show ¬ a.n0 + j < a.n0 by omega), show a.n0 + j - a.n0 = j by omega, n2] at h
    rw [h] at h3
    cases h3
 ·rcases row2 k r h1 with ⟨a1, a2, _⟩ | ⟨j, p, a1, rfl, _⟩ <;> rcases row2 l r' h2 with ⟨b1, b2, _⟩ | ⟨i, q, b1, rfl, _⟩
  ·simp only [if_pos a1, if_pos b1]
   exact hne
  ·obtain ⟨n1, n2⟩ := new b1
   simp only [if_pos a1, if_neg (show ¬ a.n0 + i < a.n0 by omega), show a.n0 + i - a.n0 = i by omega, n2]
   intro e
   subst e
   exact (hkr _ a2).2 (List.mem_of_getElem? b1)
  ·obtain ⟨n1, n2⟩ := new a1
   simp only [if_pos b1, if_neg (show ¬ a.n0 + j < a.n0 by omega), show a.n0 + j - a.n0 = j by omega, n2]
   intro e
   subst e
   exact (hkr _ b2).2 (List.mem_of_getElem? a1)
  ·obtain ⟨n1, n2⟩ := new a1
   obtain ⟨m1, m2⟩ := new b1
   simp only [if_neg (show ¬ a.n0 + j < a.n0 by omega), show a.n0 + j - a.n0 = j by omega, n2, if_neg (show ¬ a.n0 + i < a.n0 by omega), show a.n0 + i - a.n0 = i by omega, m2]
   intro e
   subst e
   have := (List.getElem?_inj n1 hk).1 (a1.trans b1.symm)
   omega
 ·rcases var3 k c h1 with ⟨a1, a2⟩ | ⟨j, p, a1, rfl⟩ <;> rcases var3 l c' h2 with ⟨b1, b2⟩ | ⟨i, q, b1, rfl⟩
  ·simp only [if_pos a1, if_pos b1]
   exact hne
  ·obtain ⟨n1, n2⟩ := new b1
   simp only [if_pos a1, if_neg (show ¬ a.n0 + ks.length + i < a.n0 by omega), show a.n0 + ks.length + i - (a.n0 + ks.length) = i by omega, n2]
   intro e
   subst e
   exact (hkv _ a2).2 (List.mem_of_getElem? b1)
  ·obtain ⟨n1, n2⟩ := new a1
   simp only [if_pos b1, if_neg (show ¬ a.n0 + ks.length + j < a.n0 by omega), show a.n0 + ks.length + j - (a.n0 + ks.length) = j by omega, n2]
   intro e
   subst e
   exact (hkv _ b2).2 (List.mem_of_getElem? a1)
  ·obtain ⟨n1, n2⟩ := new a1
   obtain ⟨m1, m2⟩ := new b1
   simp only [if_neg (show ¬ a.n0 + ks.length + j < a.n0 by omega), show a.n0 + ks.length + j - (a.n0 + ks.length) = j by omega, n2, if_neg (show ¬ a.n0 + ks.length + i < a.n0 by omega), show a.n0 + ks.length + i - (a.n0 + ks.length) = i by omega, m2]
   intro e
   subst e
   have := (List.getElem?_inj n1 hv).1 (a1.trans b1.symm)
   omega
 ·rintro k (⟨h1, h2⟩ | ⟨h1, h2⟩)
  ·omega
  ·exact h2
section
variable {B : Nat} {s0 : S4} {nt : Nat} {ro : Option Nat}
theorem canonS_ok (h0 : MemOk B s0) {T : TF} {a : Act} {s : S4} (h : Fr ro B s0 nt T a s) {c : Canon} {m : Snap} (hK : canonS s0.H.nx c T s.H = some m) :
  ∃ s', s'.W = s.W ∧ s'.H = m.H ∧ Fr ro B s0 nt m.T a s' := by
 unfold canonS at hK
 split at hK
 ·cases hK
 rename_i T0 H0 hflat
 obtain ⟨sf, rfl, f2, f3, f4, f5, f6⟩ := flatAll_ok h.m h.t hflat
 simp only at f6
 have h : Fr ro B s0 nt T0 a sf := ⟨f4, h.x.trans f5, f6, h.d.ext f5, h.n, fun k hk => h.u k (by rw [← f3]; exact hk)⟩
 rw [← f2]
 split at hK
 ·cases hK
 ·rename_i ks T1 H1 hown
  obtain ⟨t, rfl, a2, a3, a4, a5, a6⟩ := ownAll_ok h.m h.t hown
  simp only at a5 hK
  split at hK
  ·cases hK
  ·rename_i vs hvs
   split at hK
   ·cases hK
   ·rename_i hq
    injection hK with hK
    simp only [Bool.and_eq_true, List.all_eq_true] at hq
    obtain ⟨⟨⟨⟨q1, q2⟩, q3⟩, q4⟩, q5⟩ := hq
    have q1 := of_decide_eq_true q1
    have q2 := of_decide_eq_true q2
    have q3 : s0.H.nx ≤ c.n0 := by simpa [Nat.ble_eq] using q3
    have ht := turn_of (s := t) (a := c) (base := s0.H.nx) q1 q2 (fun k hk => by
      have := q4 k hk
      simp at this
      exact this) (fun k hk => by
      have := q5 k hk
      simp at this
      exact this) (sub := ⟨_, _, _⟩) rfl rfl rfl (H2 := ⟨_, _, _, _⟩) (fun k v r xs q ho hk => (a3.hk k _ hk rfl).1) rfl rfl rfl rfl
    subst hK
    refine ⟨_, ?_, rfl, ⟨memOk_turned ht a3, ext_turned ht (h.x.trans a4) (n0 := c.n0) (fun k hk => Nat.lt_of_lt_of_le (h0.un k hk) q3) (by show s0.H.nx ≤ c.n0 + ks.length + vs.length + _; omega) (fun k hk => if_pos hk) (fun k hk => if_pos hk) (fun k hk => if_pos hk) (fun k hk hu => .inl ⟨hk, hu⟩), ?_, (h.d.ext a4 : Marks ro s0 t a.defers), h.n, fun k hk => ?_⟩⟩
    ·exact a2
    ·refine ⟨fun i => ?_, (h.t.gl.monoC a4.i a4.cw : GlobW t.W t.I)⟩
     rcases tabT_get (fun i => (T1 i).norm ⟨c.keepV.map (fun k => (k, k)) ++ number vs (c.n0 + ks.length), c.keepR.map (fun k => (k, k)) ++ number ks c.n0, c.keepV⟩) c.tmps i with e | e
     ·show RelV _ (tabT _ i) _
      rw [e]
      exact relV_undef
     ·show RelV _ (tabT _ i) _
      rw [e]
      exact normV_rel ht (a5.tmp i)
    ·rcases hk with ⟨_, hk⟩ | ⟨hk, _⟩
     ·rcases a6 k hk with hk | hk
      ·exact h.u k hk
      ·exact .inr (Nat.le_trans h.x.nx hk)
     ·exact .inr (Nat.le_trans q3 hk)
end
theorem castT_eq {u : U} {x y : u.T} (h : castT u x = some y) : y = x := by
 obtain ⟨e, h⟩ := castT_some h
 exact h.symm
theorem Sh.dec_enc : ∀ {s : Sh} {r : U} {v : V} {y : r.T} {z : (s.C r).T}, s.dec r v y = some z → s.enc r z = (v, y) := by
 intro s
 induction s with
 | d u =>
  intro r v y z h
  cases v with
  | d u' x =>
   simp only [Sh.dec] at h
   split at h
   ·rename_i x' hc
    obtain ⟨e, hc⟩ := castT_some hc
    subst e
    injection h with h
    subst h
    subst hc
    rfl
   ·cases h
  | _ => simp [Sh.dec] at h
 | cons a b iha ihb =>
  intro r v y z h
  cases v with
  | cons va vb =>
   simp only [Sh.dec] at h
   split at h
   ·rename_i w hb
    have e1 := iha h
    have e2 := ihb hb
    simp only [Sh.enc, e1, e2]
   ·cases h
  | _ => simp [Sh.dec] at h
 | fn f a b iha ihb =>
  intro r v y z h
  cases v with
  | fn f' va vb =>
   simp only [Sh.dec] at h
   split at h
   ·rename_i hf
    have hf := nat_beq hf
    subst hf
    split at h
    ·rename_i w hb
     have e1 := iha h
     have e2 := ihb hb
     simp only [Sh.enc, e1, e2]
    ·cases h
   ·cases h
  | _ => simp [Sh.dec] at h
 | pdeep u =>
  intro r v y z h
  cases v with
  | pdeep u' x =>
   simp only [Sh.dec] at h
   split at h
   ·rename_i x' hc
    obtain ⟨e, hc⟩ := castT_some hc
    subst e
    injection h with h
    subst h
    subst hc
    rfl
   ·cases h
  | _ => simp [Sh.dec] at h
 | dfull u =>
  intro r v y z h
  cases v with
  | dfull u' x =>
   simp only [Sh.dec] at h
   split at h
   ·rename_i x' hc
    obtain ⟨e, hc⟩ := castT_some hc
    injection e with e
    subst e
    injection h with h
    subst h
    have hc : x = x' := hc
    subst hc
    rfl
   ·cases h
  | _ => simp [Sh.dec] at h
 | nil =>
  intro r v y z h
  cases v <;> simp [Sh.dec] at h
  injection h with h
  subst h
  rfl
 | nilsl =>
  intro r v y z h
  cases v <;> simp [Sh.dec] at h
  injection h with h
  subst h
  rfl
 | undef =>
  intro r v y z h
  cases v <;> simp [Sh.dec] at h
  injection h with h
  subst h
  rfl
 | yld =>
  intro r v y z h
  cases v with
  | tup w =>
   cases w <;> simp [Sh.dec] at h
   injection h with h
   subst h
   rfl
  | _ => simp [Sh.dec] at h
 | cst u x =>
  intro r v y z h
  cases v with
  | d u' x' =>
   simp only [Sh.dec] at h
   split at h
   ·rename_i w hc
    obtain ⟨e, hc⟩ := castT_some hc
    subst e
    split at h
    ·rename_i hx _
     injection h with h
     subst h
     have hc : x' = w := hc
     subst hc
     subst hx
     rfl
    ·cases h
   ·cases h
  | _ => simp [Sh.dec] at h
 | mp k =>
  intro r v y z h
  cases v with
  | mp k' =>
   simp only [Sh.dec] at h
   split at h
   ·rename_i hk
    have hk := nat_beq hk
    subst hk
    injection h with h
    subst h
    rfl
   ·cases h
  | _ => simp [Sh.dec] at h
 | mapd u =>
  intro r v y z h
  cases v with
  | mapd u' x =>
   simp only [Sh.dec] at h
   split at h
   ·rename_i x' hc
    obtain ⟨e, hc⟩ := castT_some hc
    injection e with e
    injection e with e1 e2
    injection e2 with e2 e3
    subst e2
    injection h with h
    subst h
    have hc : x = x' := hc
    subst hc
    rfl
   ·cases h
  | _ => simp [Sh.dec] at h
 | drow u w q =>
  intro r v y z h
  cases v with
  | drow u' w' x q' ho =>
   cases ho with
   | some _ => simp [Sh.dec] at h
   | none =>
    simp only [Sh.dec] at h
    split at h
    ·rename_i hk
     have hk := nat_beq hk
     subst hk
     split at h
     ·rename_i x' hc
      obtain ⟨e, hc⟩ := castT_some hc
      injection e with e
      injection e with e1 e2
      injection e1 with e1
      subst e1 e2
      injection h with h
      subst h
      have hc : x = x' := hc
      subst hc
      rfl
     ·cases h
    ·cases h
  | _ => simp [Sh.dec] at h
 | row k =>
  intro r v y z h
  cases v with
  | row k' =>
   simp only [Sh.dec] at h
   split at h
   ·rename_i hk
    have hk := nat_beq hk
    subst hk
    injection h with h
    subst h
    rfl
   ·cases h
  | _ => simp [Sh.dec] at h
 | pvar k p =>
  intro r v y z h
  cases v with
  | pvar k' p' =>
   simp only [Sh.dec] at h
   split at h
   ·rename_i hk
    simp only [Bool.and_eq_true, decide_eq_true_eq] at hk
    have hk1 := nat_beq hk.1
    have hk2 := hk.2
    subst hk1 hk2
    injection h with h
    subst h
    rfl
   ·cases h
  | _ => simp [Sh.dec] at h
theorem decL_enc : ∀ {l : List (Nat × Sh)} {r : U} {m : List (Nat × V)} {y : r.T} {z : (CL l r).T}, decL l r m y = some z → encL l r z = (m, y)
 | [], r, m, y, z, h => by
  cases m with
  | nil => simp only [decL] at h; injection h with h; subst h; rfl
  | cons p m => simp [decL] at h
 | p :: l, r, m, y, z, h => by
  cases m with
  | nil => simp [decL] at h
  | cons q m =>
   obtain ⟨k, v⟩ := q
   simp only [decL] at h
   split at h
   ·rename_i hk
    have hk := nat_beq hk
    split at h
    ·rename_i w hw
     have e1 := Sh.dec_enc h
     have e2 := decL_enc hw
     simp only [encL, e1, e2, hk]
    ·cases h
   ·cases h
theorem decO_enc : ∀ {l : List (Nat × Sh)} {r : U} {m : List (Nat × Option V)} {y : r.T} {z : (CL l r).T}, decO l r m y = some z → ∃ m', m = m'.map (fun p => (p.1, some p.2)) ∧ encL l r z = (m', y)
 | [], r, m, y, z, h => by
  cases m with
  | nil => simp only [decO] at h; injection h with h; subst h; exact ⟨[], rfl, rfl⟩
  | cons p m => simp [decO] at h
 | p :: l, r, m, y, z, h => by
  cases m with
  | nil => simp [decO] at h
  | cons q m =>
   obtain ⟨k, v⟩ := q
   cases v with
   | none => simp [decO] at h
   | some v =>
    simp only [decO] at h
    split at h
    ·rename_i hk
     have hk := nat_beq hk
     split at h
     ·rename_i w hw
      have e1 := Sh.dec_enc h
      obtain ⟨m', rfl, e2⟩ := decO_enc hw
      exact ⟨(k, v) :: m', rfl, by simp only [encL, e1, e2, hk]⟩
     ·cases h
    ·cases h
theorem decR_enc : ∀ {l : List (Nat × U × Bool)} {m : List (Nat × Option Row)} {z : (CR l).T}, decR l m = some z → encR l z = m
 | [], m, z, h => by
  cases m with
  | nil => rfl
  | cons p m => simp [decR] at h
 | p :: l, m, z, h => by
  cases m with
  | nil => simp [decR] at h
  | cons q m =>
   obtain ⟨k, o⟩ := q
   cases o with
   | none => simp [decR] at h
   | some row =>
    obtain ⟨u, xs, w⟩ := row
    simp only [decR] at h
    split at h
    ·rename_i hk
     simp only [Bool.and_eq_true, beq_iff_eq] at hk
     obtain ⟨hk, hw⟩ := hk
     have hk := nat_beq hk
     split at h
     ·rename_i x hc
      split at h
      ·rename_i z' hz
       injection h with h
       subst h
       obtain ⟨e, hc⟩ := castT_some hc
       injection e with e
       subst e
       have hc : xs = x := hc
       subst hc
       simp only [encR, decR_enc hz, hk, hw]
      ·cases h
     ·cases h
    ·cases h
theorem St.dec_snap {s : St} {m : Snap} {x : s.C.T} (h : s.dec m = some x) : m = s.snap x := by
 unfold St.dec at h
 split at h
 ·rename_i hn
  simp only [Bool.and_eq_true, beq_iff_eq] at hn
  obtain ⟨hn, hd⟩ := hn
  have hn := nat_beq hn
  split at h
  ·rename_i z hz
   split at h
   ·rename_i y hy
    obtain ⟨m', e1, e2⟩ := decO_enc hy
    have e3 := decL_enc h
    have e4 := decR_enc hz
    obtain ⟨a, b, c, d, e⟩ := m
    simp only at e1 e3 e4 hn hd
    unfold St.snap
    rw [e3]
    simp only
    rw [e2]
    simp only
    rw [e4, e1, hn, hd]
   ·cases h
  ·cases h
 ·cases h
def exOf : Ex → Exit
 | .normal => .normal
 | .exit i => .exit i
 | .ret => .ret
def LoopOk (E : TE) (S : FuncId → Option Sum) (inlP : (β : Type) → FuncId → V → HF → (V → HF → Option β) → Option β) (ann : Nat → Nat → Option LoopSum) (nt fi base : Nat) (c : Code) (a : LoopSum) : Prop :=
 ∀ x o, a.F x = some o → ∃ n, iterL (fun x => den E S (inlP _) ann nt fi base c 0 (a.h.snap x).T (a.h.snap x).H (roundK base a)) n x = some o
def Post {β : Type} (ro : Option Nat) (B : Nat) (s0 : S4) (nt : Nat) (K : Ex → TF → HF → Option β) (r : β) (e : Exit) (a : Act) (w : World) : Prop :=
 ∃ ex T s, e = exOf ex ∧ s.W = w ∧ Fr ro B s0 nt T a s ∧ K ex T s.H = some r
theorem keepV_rel {s : S4} {T : TF} {tmps : Array Value} (h : TRel s T tmps) : ∀ {l : List Nat}, noYs (keepV T l) = true → RelVL0 s (keepV T l) (l.map fun i => tmps.getD i undef)
 | [], _ => rfl
 | i :: l, hn => by
  simp only [keepV, noYs, Bool.and_eq_true, Bool.not_eq_true'] at hn
  exact ⟨_, _, rfl, ((h.tmp i).to1 (fun w e => by have := hn.1.1; rw [e] at this; cases this)).to0 hn.1.2, keepV_rel h hn.2⟩
theorem ext_two {B : Nat} {s : S4} (h : MemOk B s) (o o' : Obj) : MemOk B { s with W := (s.W.alloc o).alloc o', I := fun b => s.I b ∨ b = s.W.heap.size ∨ b = s.W.heap.size + 1 } ∧
  Ext B s { s with W := (s.W.alloc o).alloc o', I := fun b => s.I b ∨ b = s.W.heap.size ∨ b = s.W.heap.size + 1 } := by
 have hlt : ∀ b, b < s.W.heap.size → ((s.W.alloc o).alloc o').heap[b]? = s.W.heap[b]? := by
  intro b hb
  show ((s.W.heap.push o).push o')[b]? = s.W.heap[b]?
  rw [Array.getElem?_push_lt (by simp; omega), Array.getElem_push_lt hb, Array.getElem?_eq_getElem hb]
 have hsz : ((s.W.alloc o).alloc o').heap.size = s.W.heap.size + 2 := by simp
 have x : Ext B s { s with W := (s.W.alloc o).alloc o', I := fun b => s.I b ∨ b = s.W.heap.size ∨ b = s.W.heap.size + 1 } := by
  refine ⟨fun b hb => .inl hb, fun b hb => hb.imp id (fun hb => ?_), fun b hb => .eq (hlt b (h.ilt b hb)) rfl, ⟨rfl, rfl, rfl, ?_, fun k hk => ?_⟩, fun _ h => h, Nat.le_refl _, fun k c _ hc => ⟨c, hc, rfl, rfl⟩, fun k r hu hr => ⟨hr, fun b base hp => ?_⟩, fun _ _ => rfl, rfl, fun h => h, fun _ _ => rfl⟩
  ·have := h.bsz
   omega
  ·show s.W.heap.size ≤ ((s.W.alloc o).alloc o').heap.size
   omega
  ·have := h.bsz
   exact hlt k (by omega)
  ·have : b < s.W.heap.size := h.geolt hr hp
   unfold bsize
   rw [hlt b this]
 refine ⟨⟨fun b hb => ?_, ?_, h.un, fun k c hc => ?_, fun k r hr => ?_, h.vv, h.rr, h.vr, h.hk, ?_⟩, x⟩
 ·show b < ((s.W.alloc o).alloc o').heap.size
  rcases hb with hb | hb | hb
  ·have := h.ilt b hb
   omega
  ·omega
  ·omega
 ·show B ≤ ((s.W.alloc o).alloc o').heap.size
  have := h.bsz
  omega
 ·obtain ⟨h1, h2, h3, o, h4, h5⟩ := h.var k c hc
  have hb := (Array.getElem?_eq_some_iff.1 h4).1
  refine ⟨h1, h2, ?_, o, (hlt _ hb).trans h4, RelO.ext x h5⟩
  rintro (hi | hi | hi)
  ·exact h3 hi
  ·have hi : s.ρ.var k = s.W.heap.size := hi
   omega
  ·have hi : s.ρ.var k = s.W.heap.size + 1 := hi
   omega
 ·obtain ⟨h1, h2, h3⟩ := h.row k r hr
  refine ⟨h1, h2, h3.imp (fun q => q) ?_⟩
  rintro ⟨b, base, cur, t, e1, e2, e3, e4, e5, e6⟩
  have hb := (Array.getElem?_eq_some_iff.1 e2).1
  refine ⟨b, base, cur, t, e1, (hlt _ hb).trans e2, fun w => ⟨(e3 w).1, ?_⟩, fun w => .inl (e4 w), e5, fun i y hi => ?_⟩
  ·rintro (hi | hi | hi)
   ·exact (e3 w).2 hi
   ·omega
   ·omega
  ·obtain ⟨c, g1, g2⟩ := e6 i y hi
   exact ⟨c, g1.monoC x.i x.cw, g2⟩
 ·refine h.dj.mono x (fun k v r xs q ho hk => ⟨hk, rfl, ?_⟩) (fun k i b hb ht => ?_) (fun k i b hb => hlt b (h.dj.inlt hb).1)
  ·obtain ⟨_, _, _, o, h4, _⟩ := h.var k _ hk
   exact hlt _ (Array.getElem?_eq_some_iff.1 h4).1
  ·have hl := (h.dj.inlt hb).1
   rcases ht with hi | ht
   ·rcases hi with hi | hi | hi
    ·exact .inl hi
    ·omega
    ·omega
   ·exact .inr ht
theorem rangeFunc_ok {β : Type} {P : Program} {E : TE} {S : FuncId → Option Sum} {inl : FuncId → V → HF → (V → HF → Option β) → Option β} (hv : Env P E S inl) {B : Nat} {s0 : S4} {nt fi : Nat} {T : TF} {a : Act} {s : S4} (h : Fr none B s0 nt T a s)
  {q : RF} (hq : rtab fi = some q) {g : Operand} {ps : Array Tmp} {assign body : Code} (e1 : ps = q.ps) (e2 : assign = q.assign) (e3 : body = q.body) (hnt : q.nt = nt) (hk : noYs (keepV T q.keep) = true) (hdn : s.H.dn = false)
  {f : FuncId} {l1 m1 : List Value} (ex : a.eval g = .func (.func f) l1.toArray m1.toArray) {first caps : V} (hl : RelL s first l1) (hm : RelL s caps m1) {K : Ex → TF → HF → Option β} {r : β}
  (hK : inl f (appV first (.cons (.fn fi (keepV T q.keep) (.tup .nil)) caps)) s.H (rngK T K) = some r) : (Code.rangeFunc g ps assign body).wpIn (FR none) 0 P (Post none B s0 nt K r) a s.W := by
 refine wpIn_rangeFunc fun fn _ => ?_
 let lr : Loop := { state := .ready, pending := none, fn, tmps := a.tmps, params := ps, assign, body, defers := s.W.heap.size }
 obtain ⟨m2, x2⟩ := ext_two h.m (.deferred (some [])) (.loop lr)
 let s1 : S4 := { s with W := (s.W.alloc (.deferred (some []))).alloc (.loop lr), I := fun b => s.I b ∨ b = s.W.heap.size ∨ b = s.W.heap.size + 1, cur := s.W.heap.size + 1 }
 have hsz1 : (s.W.alloc (.deferred (some []))).heap.size = s.W.heap.size + 1 := by simp
 have hl1 : s1.W.heap[s.W.heap.size + 1]? = some (.loop lr) := by rw [← hsz1]; exact World.alloc_heap_new _ _
 have hd1 : s1.W.heap[s.W.heap.size]? = some (.deferred (some [])) := by
  show ((s.W.heap.push _).push _)[s.W.heap.size]? = _
  rw [Array.getElem?_push_lt (by simp)]
  simp
 have m1' : MemOk B s1 := m2.same (c0 := s.W.heap.size + 1) (d0 := s.H.dn) (same_refl _)
 have toL : ∀ {v : V} {l : List Value}, RelL s v l → RelL s1 v l := fun hr => RelL.same (c0 := s.W.heap.size + 1) (d0 := s.H.dn) (same_refl _) (RelL.ext x2 hr)
 have hy : YldAt s1 fi (keepV T q.keep) (s.W.heap.size + 1) lr q :=
  ⟨.inr (.inr rfl), rfl, fun _ => hl1, rfl, rfl, hq, e1, e2, e3, h.n.trans hnt.symm, RelVL0.same (c0 := s.W.heap.size + 1) (d0 := s.H.dn) (same_refl _) ((keepV_rel h.t hk).ext x2)⟩
 have harg := app_rel (relL_vl (toL hl)) (m := .func (.yield (s.W.heap.size + 1)) #[] #[] :: m1) (b := .cons (.fn fi (keepV T q.keep) (.tup .nil)) caps)
  ⟨_, _, rfl, .inr ⟨[.func (.yield (s.W.heap.size + 1)) #[] #[]], ⟨rfl, _, lr, q, rfl, hy⟩, rfl⟩, relL_vl (toL hm)⟩
 obtain ⟨hent, hcall⟩ := hv.inl.fn f _ B s1 _ _ r hK m1' (h.t.gl.monoC x2.i x2.cw) (by have := h.m.bsz; show B ≤ s.W.heap.size + 1; omega) harg
 refine ⟨s.W.heap.size + 1, [{ target := .collected s.W.heap.size, args := #[] }], _, { target := .fn (.func f) m1.toArray, args := l1.toArray ++ #[.func (.yield (s.W.heap.size + 1)) #[] #[]] }, (s.W.alloc (.deferred (some []))).alloc (.loop lr), f, (l1 ++ .func (.yield (s.W.heap.size + 1)) #[] #[] :: m1).toArray, _, run_enterLoop_outer fn a.tmps ps assign body, ?_, fun _ _ => trivial, ?_, fun h => (by cases h), calls_FR none 0 (Calls.mono hcall ?_)⟩
 ·have ey : a.eval (.const (.func (.yield (s.W.heap.size + 1)) #[] #[])) = .func (.yield (s.W.heap.size + 1)) #[] #[] := rfl
  simp [resolve, ex, ey, Deferred.ofValue]
  rfl
 ·have ea : l1.toArray ++ #[.func (.yield (s.W.heap.size + 1)) #[] #[]] ++ m1.toArray = (l1 ++ .func (.yield (s.W.heap.size + 1)) #[] #[] :: m1).toArray := by apply Array.ext'; simp
  simp only [invoke, ea]
  exact hent.run _ _
 ·rintro e W' ⟨t, x, rfl, rfl, hm', hx, hU, v, hr, hKr⟩
  have fin : ∀ (r' : Loop), t.W.heap[s.W.heap.size + 1]? = some (.loop r') → ∀ (ex : Ex), K ex T { t.H with dn := false } = some r →
    Post none B s0 nt K r (exOf ex) { a with defers := [{ target := .collected s.W.heap.size, args := #[] }] ++ a.defers } (t.W.putObj (s.W.heap.size + 1) (.loop { r' with state := .exhausted })) := by
   intro r' hl' ex hKr
   have hS : Same t.W (t.W.putObj (s.W.heap.size + 1) (.loop { r' with state := .exhausted })) := same_putObj hl' rfl rfl
   let t2 : S4 := { t with W := t.W.putObj (s.W.heap.size + 1) (.loop { r' with state := .exhausted }), cur := s.cur, H := { t.H with dn := false } }
   have m3 : MemOk B t2 := hm'.same (c0 := s.cur) (d0 := false) hS
   have hB := h.m.bsz
   have old : ∀ b, s.I b → t2.W.heap[b]? = s.W.heap[b]? := by
    intro b hb
    have hlt := h.m.ilt b hb
    have q1 : t2.W.heap[b]? = t.W.heap[b]? := World.putObj_heap_other (by omega)
    have q2 : t.W.heap[b]? = s1.W.heap[b]? := (hx.w b (.inl hb)).other (by show b ≠ s.W.heap.size + 1; omega)
    have q3 : s1.W.heap[b]? = s.W.heap[b]? := (x2.w b hb).same rfl
    exact q1.trans (q2.trans q3)
   have hx3 : Ext B s t2 := {
    i := fun b hb => hx.i b (.inl hb)
    inew := fun b hb => by
     rcases hx.inew b hb with hb | hb
     ·rcases hb with hb | hb | hb
      ·exact .inl hb
      ·exact .inr (by omega)
      ·exact .inr (by omega)
     ·exact .inr hb
    w := fun b hb => .eq (old b hb) hdn.symm
    below := x2.below.trans (hx.below.trans (below_putObj (by omega)))
    u := fun k hk => hx.u k hk
    nx := hx.nx
    var := fun k c' hu hc => hx.var k c' hu hc
    row := fun k g hu hg => by
     obtain ⟨g1, g5⟩ := hx.row k g hu hg
     obtain ⟨k1, k5⟩ := x2.row k g hu g1
     exact ⟨k1, fun b base hp => (hS.bs b).trans ((g5 b base hp).trans (k5 b base hp))⟩
    pl := fun k hu => hx.pl k hu
    fam := fun q hu => hx.fam q hu
    cu := rfl
    dm := fun hd => by rw [hdn] at hd; cases hd }
   refine ⟨ex, T, t2, rfl, rfl, ⟨m3, h.x.trans hx3, h.t.ext hx3, ?_, h.n, fun k hk => ?_⟩, hKr⟩
   ·obtain ⟨bs, b1, b2, b3⟩ := h.d
    refine ⟨s.W.heap.size :: bs, by simp [b1], List.nodup_cons.2 ⟨fun hb => ?_, b2⟩, fun b hb => ?_⟩
    ·have := (Array.getElem?_eq_some_iff.1 (b3 _ hb).2.2).1
     omega
    ·rcases List.mem_cons.1 hb with rfl | hb
     ·refine ⟨?_, hx.i _ (.inr (.inl rfl)), ?_⟩
      ·exact h.x.below.size
      ·show (t.W.putObj _ _).heap[_]? = _
       rw [World.putObj_heap_other (by omega)]
       exact (hx.w _ (.inr (.inl rfl))).obj hd1 (by intro r h; cases h)
     ·refine ⟨(b3 b hb).1, hx3.i b (b3 b hb).2.1, (hx3.w b (b3 b hb).2.1).obj (b3 b hb).2.2 (by intro r h; cases h)⟩
   ·rcases hU k hk with hk | hk
    ·exact h.u k hk
    ·exact .inr (Nat.le_trans h.x.nx hk)
  unfold rngK at hKr
  split at hKr
  ·rename_i ht
   have hl' := ((hx.w _ (.inr (.inr rfl))).undone ht).trans hl1
   have eH : ({ t.H with dn := false } : HF) = t.H := by rw [← ht]
   refine ⟨none, _, run_endLoop hl' (by intro h; cases h), ?_⟩
   exact fin lr hl' .normal (by rw [eH]; exact hKr)
  ·rename_i ht
   rcases hx.w (s.W.heap.size + 1) (.inr (.inr rfl)) with ⟨_, n⟩ | ⟨_, _, _, r', r1, r2⟩
   ·exact absurd ⟨rfl, hdn, ht⟩ n
   ·refine ⟨some .ret, _, run_endLoop r2 (by intro h; cases h), ?_⟩
    exact wpIn_ret (fin (doneL r') r2 .ret hKr)
theorem stepR_scope {P : Program} {b : Frame} {a : Act} {k : List Item} {cs : List Frame} {w : World} {c : Code} : step P (lone (b.atR a (.code (.scope c) :: k)) cs w) = .next (lone (b.atR a (.code c :: .inScope c :: k)) cs w) :=
 step_lone_go (by simp [stepG, stepG.exec, Frame.atR])
theorem stepR_inScope {P : Program} {b : Frame} {a : Act} {k : List Item} {cs : List Frame} {w : World} {c : Code} : step P (lone (b.atR a (.inScope c :: k)) cs w) = .next (lone (b.atR a k) cs w) :=
 step_lone_go (by simp [stepG, stepG.exec, Frame.atR])
def noGo (Q : Exit → Act → World → Prop) : Exit → Act → World → Prop
 | .goto _, _, _ => False
 | e, a, w => Q e a w
theorem wpIn_scope {F : Fence} {n : Nat} {P : Program} {Q : Exit → Act → World → Prop} {a : Act} {w : World} {c : Code} (h : c.wpIn F n P (noGo Q) a w) : (Code.scope c).wpIn F n P Q a w := by
 intro b k cs hro hb hr
 have h0 : (lone (b.atR a (.code (.scope c) :: k)) cs w).fenced P F := fenced_calm hb hr rfl
 obtain ⟨e, a₁, w₁, hq, harr⟩ := h b (.inScope c :: k) cs hro hb hr
 cases e with
 | normal => exact ⟨.normal, a₁, w₁, hq, .head h0 stepR_scope (StepsIn.trans harr (.one (fenced_calm hb hr rfl) stepR_inScope))⟩
 | exit id =>
  have hx : exitTo id (.inScope c :: k) = exitTo id k := by simp [exitTo]
  exact ⟨.exit id, a₁, w₁, hq, fun k' hk => .head h0 stepR_scope (harr.1 k' (by rw [hx]; exact hk)),
   fun hr' hk => let ⟨k₁, h1, h2⟩ := harr.2 hr' (by rw [hx]; exact hk); ⟨k₁, h1, .head h0 stepR_scope h2⟩⟩
 | goto l => exact hq.elim
 | ret => exact ⟨_, a₁, w₁, hq, .of_steps (.one h0 stepR_scope) harr⟩
 | panic ch => exact ⟨_, a₁, w₁, hq, .of_steps (.one h0 stepR_scope) harr⟩
 | outgrown => exact ⟨_, a₁, w₁, hq, .of_steps (.one h0 stepR_scope) harr⟩
section
variable {P : Program} {E : TE} {S : FuncId → Option Sum} {inlP : (β : Type) → FuncId → V → HF → (V → HF → Option β) → Option β} (hvP : ∀ β, Env P E S (inlP β)) {B : Nat} {s0 : S4} (h0 : MemOk B s0) (hc0 : B ≤ s0.cur) {nt fi : Nat} {ro : Option Nat} {ann : Nat → Nat → Option LoopSum}
include hvP h0 hc0
theorem den_ok : ∀ (c : Code) (cur : Nat) (hL : ∀ p ∈ loopsIn c cur, ∀ a, ann s0.H.nx p.1 = some a → LoopOk E S inlP ann nt fi s0.H.nx p.2 a) (hR : ∀ p ∈ rangesIn c, ro = none ∧ ∃ q, rtab fi = some q ∧ p = (q.ps, q.assign, q.body) ∧ q.nt = nt) (β : Type) (T : TF) (a : Act) (s : S4) (K : Ex → TF → HF → Option β) (r : β),
  Fr ro B s0 nt T a s → den E S (inlP β) ann nt fi s0.H.nx c cur T s.H K = some r → c.wpIn (FR ro) 0 P (Post ro B s0 nt K r) a s.W
 | .skip, cur, hL, hR, β, T, a, s, K, r, h, hK => wpIn_skip ⟨.normal, T, s, rfl, rfl, h, hK⟩
 | .region id ops false, cur, hL, hR, β, T, a, s, K, r, h, hK => by
  apply wpIn_region
  simp only [den] at hK
  rw [List.range_eq_range']
  have m : MemOk B { s with H := { s.H with nx := s.H.nx + 16 * ops.size } } ∧ Ext B s { s with H := { s.H with nx := s.H.nx + 16 * ops.size } } := by
   have x : Ext B s { s with H := { s.H with nx := s.H.nx + 16 * ops.size } } := ⟨fun _ h => h, fun _ h => .inl h, fun _ _ => .eq rfl rfl, Below.refl _ _, fun _ h => h, Nat.le_add_right _ _, fun k c _ hc => ⟨c, hc, rfl, rfl⟩, fun k r _ hr => ⟨hr, fun _ _ _ => rfl⟩, fun _ _ => rfl, rfl, fun h => h, fun _ _ => rfl⟩
   refine ⟨⟨h.m.ilt, h.m.bsz, fun k hk => Nat.lt_of_lt_of_le (h.m.un k hk) (Nat.le_add_right _ _), fun k c hc => ?_, h.m.row, h.m.vv, h.m.rr, h.m.vr, h.m.hk, h.m.dj.mono x (fun _ _ _ _ _ _ hk => ⟨hk, rfl, rfl⟩) (fun _ _ _ _ ht => ht) (fun _ _ _ _ => rfl)⟩, x⟩
   obtain ⟨h1, h2, h3, o, h4, h5⟩ := h.m.var k c hc
   exact ⟨h1, h2, h3, o, h4, RelO.ext x h5⟩
  have := runOps_ok (hvP β) hc0 (Q := Post ro B s0 nt K r) (N0 := s.H.nx) h.x.nx (K := fun T' H' => K .normal T' H') (r := r) (ops := ops) ops.toList 0 T a { s with H := { s.H with nx := s.H.nx + 16 * ops.size } } ⟨m.1, h.x.trans m.2, h.t.ext m.2, h.d.ext m.2, h.n, h.u⟩ rfl (Nat.le_refl _)
   (fun k h1 h2 hk => by
    have := h.m.un k hk
    omega) hK (fun a' T' t h' hK' => ⟨.normal, T', t, rfl, rfl, h', hK'⟩)
  simpa using this
 | .region id ops true, cur, hL, hR, β, T, a, s, K, r, h, hK => by
  simp only [den] at hK
  exact any_ok (hvP β) hc0 (hvP β).E.mixed h hK (fun a' T' t h' hK' => ⟨.normal, T', t, rfl, rfl, h', hK'⟩)
 | .seq x y, cur, hL, hR, β, T, a, s, K, r, h, hK => by
  simp only [den] at hK
  refine wpIn_seq (wpIn_mono (den_ok x 0 (fun p hp => hL p (by simp [loopsIn, hp])) (fun p hp => hR p (by simp [rangesIn, hp])) β T a s _ r h hK) ?_)
  rintro e a' w ⟨ex, T', s', rfl, rfl, h', hK'⟩
  cases ex with
  | normal => exact den_ok y 0 (fun p hp => hL p (by simp [loopsIn, hp])) (fun p hp => hR p (by simp [rangesIn, hp])) β T' a' s' K r h' hK'
  | exit i => exact ⟨.exit i, T', s', rfl, rfl, h', hK'⟩
  | ret => exact ⟨.ret, T', s', rfl, rfl, h', hK'⟩
 | .cond c x y, cur, hL, hR, β, T, a, s, K, r, h, hK => by
  simp only [den] at hK
  split at hK
  ·rename_i b hb
   have e := evO_bool h.t hb
   have hT : ∀ b', b = b' → Fr ro B s0 nt (updC T c b') a s := by
    rintro b' rfl
    cases c with
    | tmp t => exact ⟨h.m, h.x, trel_same h.t hb, h.d, h.n, h.u⟩
    | _ => exact h
   cases b with
   | true => exact wpIn_cond_true e (den_ok x 0 (fun p hp => hL p (by simp [loopsIn, hp])) (fun p hp => hR p (by simp [rangesIn, hp])) β _ a s K r (hT true rfl) hK)
   | false => exact wpIn_cond_false e (den_ok y 0 (fun p hp => hL p (by simp [loopsIn, hp])) (fun p hp => hR p (by simp [rangesIn, hp])) β _ a s K r (hT false rfl) hK)
  ·cases hK
 | .block id c, cur, hL, hR, β, T, a, s, K, r, h, hK => by
  simp only [den] at hK
  refine wpIn_block (wpIn_mono (den_ok c id (fun p hp => hL p (by simpa [loopsIn] using hp)) (fun p hp => hR p (by simpa [rangesIn] using hp)) β T a s _ r h hK) ?_)
  rintro e a' w ⟨ex, T', s', rfl, rfl, h', hK'⟩
  cases ex with
  | normal => exact ⟨.normal, T', s', rfl, rfl, h', hK'⟩
  | exit i =>
   simp only [exOf, Exit.inBlock]
   simp only [blkK] at hK'
   split at hK'
   ·rename_i e
    have := nat_beq e
    subst this
    rw [if_pos rfl]
    exact ⟨.normal, T', s', rfl, rfl, h', hK'⟩
   ·rename_i e
    rw [if_neg (by rintro rfl; simp at e)]
    exact ⟨.exit i, T', s', rfl, rfl, h', hK'⟩
  | ret => exact ⟨.ret, T', s', rfl, rfl, h', hK'⟩
 | .loop c, cur, hL, hR, β, T, a, s, K, r, h, hK => by
  simp only [den] at hK
  split at hK
  case h_2 =>
   rename_i nb hnb
   have hLc : ∀ p ∈ loopsIn c 0, ∀ a, ann s0.H.nx p.1 = some a → LoopOk E S inlP ann nt fi s0.H.nx p.2 a := fun p hp => hL p (by simp [loopsIn, hp])
   intro b k cs hro hb hr
   have key : ∀ (n : Nat) (T : TF) (a : Act) (s : S4), Fr ro B s0 nt T a s → unrK (fun T H K => den E S (inlP β) ann nt fi s0.H.nx c 0 T H K) n T s.H K = some r →
     ∃ e a' w', Post ro B s0 nt K r e a' w' ∧ ArrivesIn (Machine.fenced P (FR ro)) P (lone (b.atR a (.code c :: .inLoop c :: k)) cs s.W) b k cs e a' w' := by
    intro n
    induction n with
    | zero => intro T a s h hi; cases hi
    | succ n ih =>
     intro T a s h hi
     simp only [unrK] at hi
     obtain ⟨e, a1, w1, ⟨ex, T', s', rfl, rfl, h', hK'⟩, harr⟩ := den_ok c 0 hLc (fun p hp => hR p (by simpa [rangesIn] using hp)) _ T a s _ _ h hi b (.inLoop c :: k) cs hro hb hr
     cases ex with
     | normal =>
      obtain ⟨e, a', w', hq, harr2⟩ := ih T' a1 s' h' hK'
      exact ⟨e, a', w', hq, .of_steps (StepsIn.trans harr (.one (fenced_calm hb hr rfl) stepR_inLoop)) harr2⟩
     | exit i => exact ⟨_, a1, s'.W, ⟨.exit i, T', s', rfl, rfl, h', hK'⟩, .pass (x := .inLoop c) rfl (fun _ _ => .inl (by simp [exOf])) harr⟩
     | ret => exact ⟨_, a1, s'.W, ⟨.ret, T', s', rfl, rfl, h', hK'⟩, .pass (x := .inLoop c) rfl (fun _ _ => .inl (by simp [exOf])) harr⟩
   obtain ⟨e, a', w', hq, harr⟩ := key _ T a s h hK
   exact ⟨e, a', w', hq, .of_steps (.one (fenced_calm hb hr rfl) stepR_loop) harr⟩
  split at hK
  ·rename_i an han
   have hLo := hL (cur, c) (by simp [loopsIn]) an han
   have hLc : ∀ p ∈ loopsIn c 0, ∀ a, ann s0.H.nx p.1 = some a → LoopOk E S inlP ann nt fi s0.H.nx p.2 a := fun p hp => hL p (by simp [loopsIn, hp])
   unfold headK at hK
   split at hK
   case h_2 => cases hK
   rename_i m hm
   split at hK
   case h_2 => cases hK
   rename_i x hx
   cases hF : an.F x with
   | none => rw [hF] at hK; cases hK
   | some o =>
    rw [hF] at hK
    have hK : leaveK an K o = some r := hK
    obtain ⟨n, hn⟩ := hLo x o hF
    obtain ⟨s1, e1, eH, h1⟩ := canonS_ok h0 h hm
    have em := St.dec_snap hx
    subst em
    rw [← e1]
    intro b k cs hro hb hr
    have key : ∀ (n : Nat) (x : an.h.C.T) (a : Act) (s : S4), Fr ro B s0 nt (an.h.snap x).T a s → s.H = (an.h.snap x).H →
      iterL (fun x => den E S (inlP _) ann nt fi s0.H.nx c 0 (an.h.snap x).T (an.h.snap x).H (roundK s0.H.nx an)) n x = some o →
      ∃ e a' w', Post ro B s0 nt K r e a' w' ∧ ArrivesIn (Machine.fenced P (FR ro)) P (lone (b.atR a (.code c :: .inLoop c :: k)) cs s.W) b k cs e a' w' := by
     intro n
     induction n with
     | zero => intro x a s h hH hi; cases hi
     | succ n ih =>
      intro x a s h hH hi
      simp only [iterL] at hi
      split at hi
      ·rename_i y hy
       rw [← hH] at hy
       obtain ⟨e, a1, w1, ⟨ex, T', s', rfl, rfl, h', hK'⟩, harr⟩ := den_ok c 0 hLc (fun p hp => hR p (by simpa [rangesIn] using hp)) _ _ a s _ _ h hy b (.inLoop c :: k) cs hro hb hr
       cases ex with
       | normal =>
        simp only [roundK] at hK'
        split at hK'
        ·rename_i m2 hm2
         split at hK'
         ·rename_i y' hy'
          injection hK' with hK'
          injection hK' with hK'
          subst hK'
          obtain ⟨s2, e2, eH2, h2⟩ := canonS_ok h0 h' hm2
          have em2 := St.dec_snap hy'
          subst em2
          obtain ⟨e, a', w', hq, harr2⟩ := ih y' a1 s2 h2 eH2 hi
          rw [e2] at harr2
          exact ⟨e, a', w', hq, .of_steps (StepsIn.trans harr (.one (fenced_calm hb hr rfl) stepR_inLoop)) harr2⟩
         ·cases hK'
        ·cases hK'
       | exit i =>
        simp only [roundK] at hK'
        split at hK'
        ·split at hK'
         ·split at hK'
          ·injection hK' with hK'; cases hK'
          ·cases hK'
         ·cases hK'
        ·cases hK'
       | ret =>
        simp only [roundK] at hK'
        split at hK'
        ·split at hK'
         ·injection hK' with hK'; cases hK'
         ·cases hK'
        ·cases hK'
      ·rename_i l hl
       injection hi with hi
       subst hi
       rw [← hH] at hl
       obtain ⟨e, a1, w1, ⟨ex, T', s', rfl, rfl, h', hK'⟩, harr⟩ := den_ok c 0 hLc (fun p hp => hR p (by simpa [rangesIn] using hp)) _ _ a s _ _ h hl b (.inLoop c :: k) cs hro hb hr
       cases ex with
       | normal =>
        simp only [roundK] at hK'
        split at hK'
        ·split at hK'
         ·injection hK' with hK'; cases hK'
         ·cases hK'
        ·cases hK'
       | exit i =>
        simp only [roundK] at hK'
        split at hK'
        ·rename_i hid
         have hid := nat_beq hid
         subst hid
         split at hK'
         ·rename_i m2 hm2
          split at hK'
          ·rename_i y' hy'
           injection hK' with hK'
           injection hK' with hK'
           subst hK'
           obtain ⟨s2, e2, eH2, h2⟩ := canonS_ok h0 h' hm2
           have em2 := St.dec_snap hy'
           subst em2
           exact ⟨_, a1, s'.W, ⟨.exit an.xid, _, s2, rfl, e2, h2, by rw [eH2]; exact hK⟩, .pass (x := .inLoop c) rfl (fun _ _ => .inl (by simp [exOf])) harr⟩
          ·cases hK'
         ·cases hK'
        ·cases hK'
       | ret =>
        simp only [roundK] at hK'
        split at hK'
        ·rename_i m2 hm2
         split at hK'
         ·rename_i y' hy'
          injection hK' with hK'
          injection hK' with hK'
          subst hK'
          obtain ⟨s2, e2, eH2, h2⟩ := canonS_ok h0 h' hm2
          have em2 := St.dec_snap hy'
          subst em2
          exact ⟨_, a1, s'.W, ⟨.ret, _, s2, rfl, e2, h2, by rw [eH2]; exact hK⟩, .pass (x := .inLoop c) rfl (fun _ _ => .inl (by simp [exOf])) harr⟩
         ·cases hK'
        ·cases hK'
      ·cases hi
    obtain ⟨e, a', w', hq, harr⟩ := key n x a s1 h1 eH hn
    exact ⟨e, a', w', hq, .of_steps (.one (fenced_calm hb hr rfl) stepR_loop) harr⟩
  ·cases hK
 | .rangeFunc g ps assign body, cur, hL, hR, β, T, a, s, K, r, h, hK => by
  obtain ⟨rfl, q, hq, he, hnt⟩ := hR (ps, assign, body) (by simp [rangesIn])
  simp only [Prod.mk.injEq] at he
  obtain ⟨e1, e2, e3⟩ := he
  simp only [den, hq] at hK
  split at hK
  case h_2 => cases hK
  rename_i f first caps hf
  split at hK
  case h_2 => cases hK
  rename_i hc
  simp only [Bool.and_eq_true, Bool.not_eq_true'] at hc
  obtain ⟨cs, g1, g2⟩ := (evO_is h.t hf).get (by intro h; cases h) (by intro w h; cases h) hc.1.2
  obtain ⟨l1, m1, rfl, hl, hm⟩ := relC_fn g1 hc.1.1.2
  have ex := isVal_one g2 rfl
  exact rangeFunc_ok (hvP β) (fi := fi) h hq e1 e2 e3 hnt hc.1.1.1 hc.2 ex hl hm hK
 | .exit id, cur, hL, hR, β, T, a, s, K, r, h, hK => wpIn_exit ⟨.exit id, T, s, rfl, rfl, h, hK⟩
 | .ret, cur, hL, hR, β, T, a, s, K, r, h, hK => wpIn_ret ⟨.ret, T, s, rfl, rfl, h, hK⟩
 | .label _, cur, hL, hR, β, T, a, s, K, r, h, hK => wpIn_label ⟨.normal, T, s, rfl, rfl, h, hK⟩
 | .scope c, cur, hL, hR, β, T, a, s, K, r, h, hK => by
  simp only [den] at hK
  refine wpIn_scope (wpIn_mono (den_ok c 0 (fun p hp => hL p (by simpa [loopsIn] using hp)) (fun p hp => hR p (by simpa [rangesIn] using hp)) β T a s _ r h hK) ?_)
  rintro e a' w ⟨ex, T', s', rfl, rfl, h', hK'⟩
  cases ex with
  | normal => exact ⟨.normal, T', s', rfl, rfl, h', hK'⟩
  | exit i => exact ⟨.exit i, T', s', rfl, rfl, h', hK'⟩
  | ret => exact ⟨.ret, T', s', rfl, rfl, h', hK'⟩
 | .goto _, cur, hL, hR, β, T, a, s, K, r, h, hK => by cases hK
end
end Go.Proofs.YtdokfjkihjkcmaaGreatDoor.Den

/- Functions, whole: run in place, or told by a summary. -/
namespace Go.Proofs.YtdokfjkihjkcmaaGreatDoor.Den
open Go Go.RowKit
set_option linter.unusedVariables false
set_option linter.unusedSectionVars false
theorem lenL_rel {s : S4} : ∀ {v : V} {l : List Value}, RelVL s v l → lenL v = l.length
 | .cons a b, l, h => by
  obtain ⟨x, r, rfl, _, h2⟩ := h
  simp [lenL, lenL_rel h2]
 | .nil, l, h => by simp only [RelVL] at h; subst h; rfl
 | .d _ _, _, h => by simp only [RelVL] at h
 | .nilsl, _, h => by simp only [RelVL] at h
 | .dfull _ _, _, h => by simp only [RelVL] at h
 | .row _, _, h => by simp only [RelVL] at h
 | .rsub _ _ _, _, h => by simp only [RelVL] at h
 | .pvar _ _, _, h => by simp only [RelVL] at h
 | .prow _ _ _, _, h => by simp only [RelVL] at h
 | .pdeep _ _, _, h => by simp only [RelVL] at h
 | .fn _ _ _, _, h => by simp only [RelVL] at h
 | .tup _, _, h => by simp only [RelVL] at h
 | .mp _, _, h => by simp only [RelVL] at h
 | .mapd _ _, _, h => by simp only [RelVL] at h
 | .hrow _ _ _ _ _, _, h => by simp only [RelVL] at h
 | .str _, _, h => by simp only [RelVL] at h
 | .drow _ _ _ _ _, _, h => by simp only [RelVL] at h
 | .dsl _ _ _ _, _, h => by simp only [RelVL] at h
 | .dpi _ _ _ _ _, _, h => by simp only [RelVL] at h
 | .undef, _, h => by simp only [RelVL] at h
theorem argT_rel {s : S4} : ∀ {v : V} {l : List Value} {n i : Nat}, RelVL s v l → argT v n i = .undef ∨ ∃ x, n ≤ i ∧ l[i - n]? = some x ∧ RelV s (argT v n i) x
 | .cons a b, l, n, i, h => by
  obtain ⟨x, r, rfl, h1, h2⟩ := h
  simp only [argT]
  cases e : Nat.beq i n with
  | true =>
   have := nat_beq e
   subst this
   exact .inr ⟨x, Nat.le_refl _, by simp, h1.toV⟩
  | false =>
   rcases argT_rel (n := n + 1) (i := i) h2 with g | ⟨y, g1, g2, g3⟩
   ·exact .inl g
   ·refine .inr ⟨y, by omega, ?_, g3⟩
    rw [show i - n = (i - (n + 1)) + 1 by omega]
    simpa using g2
 | .nil, _, _, _, _ => .inl rfl
 | .d _ _, _, _, _, h => by simp only [RelVL] at h
 | .nilsl, _, _, _, h => by simp only [RelVL] at h
 | .dfull _ _, _, _, _, h => by simp only [RelVL] at h
 | .row _, _, _, _, h => by simp only [RelVL] at h
 | .rsub _ _ _, _, _, _, h => by simp only [RelVL] at h
 | .pvar _ _, _, _, _, h => by simp only [RelVL] at h
 | .prow _ _ _, _, _, _, h => by simp only [RelVL] at h
 | .pdeep _ _, _, _, _, h => by simp only [RelVL] at h
 | .fn _ _ _, _, _, _, h => by simp only [RelVL] at h
 | .tup _, _, _, _, h => by simp only [RelVL] at h
 | .mp _, _, _, _, h => by simp only [RelVL] at h
 | .mapd _ _, _, _, _, h => by simp only [RelVL] at h
 | .hrow _ _ _ _ _, _, _, _, h => by simp only [RelVL] at h
 | .str _, _, _, _, h => by simp only [RelVL] at h
 | .drow _ _ _ _ _, _, _, _, h => by simp only [RelVL] at h
 | .dsl _ _ _ _, _, _, _, h => by simp only [RelVL] at h
 | .dpi _ _ _ _ _, _, _, _, h => by simp only [RelVL] at h
 | .undef, _, _, _, h => by simp only [RelVL] at h
def resOne (tmps : Array Value) : ResultVar → Sem Value
 | .tmp t => pure (tmps.getD t undef)
 | .cell a t => do loadVar t (← asAddr (tmps.getD a undef))
theorem res_ok {P : Program} {E : TE} (hE : TEok P E) {B : Nat} {s : S4} (h : MemOk B s) {T : TF} {tmps : Array Value} (hT : TRel s T tmps) : ∀ {rs : List ResultVar} {v : V}, resV E T s.H rs = some v →
  ∃ l, (rs.mapM (resOne tmps)).run P s.W = .ok l s.W ∧ RelVL s v l
 | [], v, hv => by
  simp only [resV] at hv
  injection hv with hv
  subst hv
  exact ⟨[], by simp, rfl⟩
 | .tmp t :: rs, v, hv => by
  simp only [resV] at hv
  split at hv
  ·rename_i hnt
   split at hv
   ·rename_i w hw
    injection hv with hv
    subst hv
    obtain ⟨l, h1, h2⟩ := res_ok hE h hT hw
    refine ⟨_ :: l, ?_, _, l, rfl, (hT.tmp t).to1 ?_, h2⟩
    ·simp only [List.mapM_cons, resOne, Sem.run_bind, Sem.run_pure, Result.andThen_ok, h1]
    ·intro w e
     rw [e] at hnt
     cases hnt
   ·cases hv
  ·cases hv
 | .cell a t :: rs, v, hv => by
  simp only [resV] at hv
  split at hv
  ·rename_i k ha
   split at hv
   ·rename_i c hc
    split at hv
    ·rename_i n g hs
     split at hv
     ·rename_i hq
      split at hv
      ·rename_i w hw
       injection hv with hv
       subst hv
       obtain ⟨l, h1, h2⟩ := res_ok hE h hT hw
       simp only [Bool.and_eq_true, beq_iff_eq] at hq
       obtain ⟨hn, hg⟩ := hq
       have hn := nat_beq hn
       have hx := hT.tmp a
       rw [ha] at hx
       obtain ⟨o, cs, t', e, ho, hb, hr⟩ := pvar_at h hx hc
       rw [off_nil] at ho
       injection ho with ho
       subst ho
       obtain ⟨hf, hf1⟩ := hE.sz t n g hs
       obtain ⟨y, hy, hyv⟩ := run_loadVar hf hf1 s.W ⟨s.ρ.var k, 0, none⟩ cs.toList (by rw [hr.len]; exact hn) (fun j u hj => by
        rw [addr_add, cell_at hb]
        simpa using hj)
       refine ⟨y :: l, ?_, y, l, rfl, ?_, h2⟩
       ·have ea : (asAddr (tmps.getD a undef)).run P s.W = .ok ⟨s.ρ.var k, 0, none⟩ s.W := by rw [e]; rfl
        simp only [List.mapM_cons, resOne, Sem.run_bind, Sem.run_pure, Result.andThen_ok, ea, hy, h1]
       ·exact .inr ⟨_, relT_of hr, by rw [hg]; exact hyv⟩
      ·cases hv
     ·cases hv
    ·cases hv
   ·cases hv
  ·cases hv
theorem results_ok {P : Program} {fn : Func} {tmps : Array Value} {W : World} {l : List Value} (h : (fn.results.toList.mapM (resOne tmps)).run P W = .ok l W) : (results fn tmps).run P W = .ok (outValue l) W := by
 have e : results fn tmps = (do let vs ← fn.results.mapM (resOne tmps); pure (if h : vs.size = 1 then vs[0] else .tuple vs)) := by
  unfold results
  congr 1
 rw [e, Array.mapM_eq_mapM_toList]
 simp only [Sem.run_bind, Sem.run_map, h]
 match l with
 | [] => rfl
 | [v] => rfl
 | v :: w :: r => simp [outValue]
theorem heal_ok {B : Nat} {s : S4} (h : MemOk B s) (k : Nat) : ∃ t : S4, t.H = heal s.H k ∧ t.W = s.W ∧ t.U = s.U ∧ MemOk B t ∧ Ext B s t := by
 have stay : ∃ t : S4, t.H = s.H ∧ t.W = s.W ∧ t.U = s.U ∧ MemOk B t ∧ Ext B s t := ⟨s, rfl, rfl, rfl, h, Ext.refl B s⟩
 unfold heal
 split
 ·exact stay
 rename_i hrn
 split
 case h_2 => exact stay
 rename_i k' u xs i w hc
 split
 case h_2 => exact stay
 rename_i y hd
 split
 ·exact stay
 rename_i hnot
 obtain ⟨rfl, _, hgeo, base, cur, ty, hp, hb, hr⟩ := hole_at h hc
 obtain ⟨q1, q2, c, q3, q4, q5⟩ := hr.at_ _ _ hp
 have hdr := deepen_rel h hd q3
 obtain ⟨t1, e1, e2, e3, e4, e5, e6, e7⟩ := freeze_ok (B := B) w.rows h
 have hI : ∀ b, Iv s w b → t1.I b := by
  rintro b (hb | ⟨j, r', base, hj, hr', hp⟩)
  ·exact e6.i b hb
  ·exact e7 j hj r' b base hr' hp
 have hk : k' ∉ w.rows := by
  intro hk
  simp [hk] at hnot
 have hc1 : t1.H.var k' = some (.hrow k' u xs i w) := by rw [e1, freeze_var]; exact hc
 obtain ⟨_, hrn1, hgeo1, base1, cur1, ty1, hp1, hb1, hr1⟩ := hole_at e5 hc1
 obtain ⟨g1, g2, g3, _⟩ := e5.var k' _ hc1
 obtain ⟨p1, p2, c1, p3, p4, p5⟩ := hr1.at_ _ _ hp1
 have eb : base1 = base ∧ cur1 = cur := by
  rw [e4, hp] at hp1
  injection hp1 with hp1
  injection hp1 with _ hp1
  rw [e4, e2, hb] at hb1
  injection hb1 with hb1
  injection hb1 with hb1 _ _
  exact ⟨hp1.symm, hb1.symm⟩
 obtain ⟨rfl, rfl⟩ := eb
 have hlen : (xs.set i y).length = xs.length := by simp
 let t2 : S4 := { t1 with H := (t1.H.delVar k').setRow k' ⟨u, xs.set i y, true⟩ }
 have r2 : ∀ {l : Nat} {r : Row}, t2.H.row l = some r → (l = k' ∧ r = ⟨u, xs.set i y, true⟩) ∨ (l ≠ k' ∧ t1.H.row l = some r) := by
  intro l r hl
  by_cases e : l = k'
  ·subst e
   simp [t2, HF.setRow] at hl
   exact .inl ⟨rfl, hl.symm⟩
  ·simp [t2, HF.setRow, HF.delVar, nbeq e] at hl
   exact .inr ⟨e, hl⟩
 have v2 : ∀ {l : Nat} {d : V}, t2.H.var l = some d → l ≠ k' ∧ t1.H.var l = some d := fun {l d} hl => delVar_var (H := t1.H) (k := k') hl
 have x2 : Ext B t1 t2 := {
  i := fun _ h => h
  inew := fun _ h => .inl h
  w := fun _ _ => .eq rfl rfl
  below := Below.refl _ _
  u := fun _ h => h
  nx := Nat.le_refl _
  var := fun l d _ hl => by
   obtain ⟨hl, hh⟩ := pv_var hl
   exact ⟨d, var_pv (v2 hl).2 hh, rfl, rfl⟩
  row := fun l g _ hg => by
   refine ⟨?_, fun _ _ _ => rfl⟩
   by_cases e : l = k'
   ·subst e
    have h1 : t2.H.row l = some ⟨u, xs.set i y, true⟩ := by simp [t2, HF.setRow]
    rw [geo_row h1] at hg
    rw [hgeo1, ← hlen]; exact hg
   ·have hv : t2.H.row l = t1.H.row l := by simp [t2, HF.setRow, HF.delVar, nbeq e]
    have hv2 : t2.H.var l = t1.H.var l := by simp [t2, HF.setRow, HF.delVar, nbeq e]
    rw [← geo_eq (H := t1.H) (H2 := t2.H) hv hv2]; exact hg
  pl := fun _ _ => rfl }
 refine ⟨t2, ?_, e2, e3, ⟨e5.ilt, e5.bsz, e5.un, fun l d hl => ?_, fun l r hl => ?_, fun a b d d' hab h1 h2 => e5.vv a b d d' hab (v2 h1).2 (v2 h2).2, ?_, ?_, fun l d hl h1 => ?_, e5.dj.mono x2 (fun l v r xs q ho hk => ⟨(v2 hk).2, rfl, rfl⟩) (fun l j b _ ht => ?_) (fun _ _ _ _ => rfl)⟩, e6.trans x2⟩
 ·show (t1.H.delVar k').setRow k' _ = _
  rw [e1]
 ·obtain ⟨h1, h2, h3, o, h4, h5⟩ := e5.var l d (v2 hl).2
  exact ⟨h1, h2, h3, o, h4, RelO.ext x2 h5⟩
 ·rcases r2 hl with ⟨rfl, rfl⟩ | ⟨hne, hl⟩
  ·refine ⟨g1, hr.z, .inr ⟨_, _, cur1, ty1, hp1, hb1, fun _ => ⟨g2, g3⟩, (fun h0 => by cases h0), by show base1 + (xs.set i y).length * u.size ≤ cur1.size; rw [hlen]; exact q1, fun j x hj => ?_⟩⟩
   by_cases hji : j = i
   ·subst hji
    have hj : (xs.set j y)[j]? = some x := hj
    rw [List.getElem?_set_self hr.lt] at hj
    injection hj with hj
    subst hj
    exact ⟨c, hdr.mono hI (fun b hb => by rw [show t2.W = s.W from e2]), q5⟩
   ·have hj : (xs.set i y)[j]? = some x := hj
    rw [List.getElem?_set_ne (Ne.symm hji)] at hj
    exact p2 j x hji hj
  ·exact e5.row l r hl
 ·intro a b r1 r2' x y1 z hab h1 h2 w1 w2 p1 p2
  rcases r2 h1 with ⟨rfl, rfl⟩ | ⟨na, k1⟩ <;> rcases r2 h2 with ⟨rfl, rfl⟩ | ⟨nb, k2⟩
  ·exact hab rfl
  ·have p1 : t1.ρ.row a = some (x, y1) := p1
   rw [hp1] at p1
   injection p1 with p1
   injection p1 with p1 _
   exact e5.vr a b _ r2' x z hc1 k2 w2 p2 p1
  ·have p2 : t1.ρ.row b = some (x, z) := p2
   rw [hp1] at p2
   injection p2 with p2
   injection p2 with p2 _
   exact e5.vr b a _ r1 x y1 hc1 k1 w1 p1 p2
  ·exact e5.rr a b r1 r2' x y1 z hab k1 k2 w1 w2 p1 p2
 ·intro a b d r1 x y1 h1 h2 w1 p1
  obtain ⟨na, k1⟩ := v2 h1
  rcases r2 h2 with ⟨rfl, rfl⟩ | ⟨nb, k2⟩
  ·have p1 : t1.ρ.row b = some (x, y1) := p1
   rw [hp1] at p1
   injection p1 with p1
   injection p1 with p1 _
   rw [← p1]
   exact e5.vv a b d _ na k1 hc1
  ·exact e5.vr a b d r1 x y1 k1 k2 w1 p1
 ·obtain ⟨nl, hl⟩ := v2 hl
  obtain ⟨h2, h3⟩ := e5.hk l d hl h1
  refine ⟨?_, h3⟩
  cases e : t2.H.row l with
  | none => rfl
  | some r =>
   rcases r2 e with ⟨rfl, _⟩ | ⟨_, e⟩
   ·exact absurd rfl nl
   ·rw [h2] at e; cases e
 ·rcases ht with ht | ⟨m, d, g, e⟩ | ⟨m, r, b0, g, hw, e⟩
  ·exact .inl ht
  ·exact .inr (.inl ⟨m, d, (v2 g).2, e⟩)
  ·rcases r2 g with ⟨rfl, rfl⟩ | ⟨_, g⟩
   ·have e : t1.ρ.row m = some (b, b0) := e
    rw [hp1] at e
    injection e with e
    injection e with e _
    exact .inr (.inl ⟨m, _, hc1, e⟩)
   ·exact .inr (.inr ⟨m, r, b0, g, hw, e⟩)
theorem healL_ok {B : Nat} : ∀ (ks : List Nat) {s : S4}, MemOk B s → ∃ t : S4, t.H = healL s.H ks ∧ t.W = s.W ∧ t.U = s.U ∧ MemOk B t ∧ Ext B s t
 | [], s, h => ⟨s, rfl, rfl, rfl, h, Ext.refl B s⟩
 | k :: ks, s, h => by
  obtain ⟨t, a1, a2, a3, a4, a5⟩ := heal_ok h k
  obtain ⟨t', b1, b2, b3, b4, b5⟩ := healL_ok ks a4
  refine ⟨t', ?_, b2.trans a2, b3.trans a3, b4, a5.trans b5⟩
  rw [b1, a1]
  rfl
theorem leave_ok {P : Program} {E : TE} (hE : TEok P E) {B : Nat} {s : S4} (hm : MemOk B s) {fn : Func} {T : TF} {tmps : Array Value} {β : Type} {K : V → HF → Option β} {r : β} {v : V} : ∀ (bs : List Nat) (t : S4), MemOk B t → Ext B s t → TRel t T tmps → (∀ k, t.U k → s.U k ∨ s.H.nx ≤ k) → bs.Nodup →
  (∀ b ∈ bs, s.W.heap.size ≤ b ∧ t.I b ∧ t.W.heap[b]? = some (.deferred (some []))) → resV E T t.H fn.results.toList = some v → K v (healL t.H v.rows) = some r →
  LeavesInM (FR none) 0 P fn tmps (fun e W' => ∃ t' x', e = .returned x' ∧ t'.W = W' ∧ MemOk B t' ∧ Ext B s t' ∧ (∀ k, t'.U k → s.U k ∨ s.H.nx ≤ k) ∧ ∃ v lv, RelVL t' v lv ∧ x' = outValue lv ∧ K v t'.H = some r) (bs.map (fun b => { target := .collected b, args := #[] })) .returning t.W
 | [], t, ht, hx, hT, hU, _, _, hv, hK => by
  obtain ⟨lv, g1, g2⟩ := res_ok hE ht hT hv
  obtain ⟨t2, b1, b2, b3, b4, b5⟩ := healL_ok v.rows ht
  exact ⟨_, results_ok g1, t2, _, rfl, b2, b4, hx.trans b5, fun k hk => hU k (by rw [← b3]; exact hk), v, lv, g2.ext b5, rfl, by rw [b1]; exact hK⟩
 | b :: bs, t, ht, hx, hT, hU, hnd, hb, hv, hK => by
  obtain ⟨h1, h2, h3⟩ := hb b (by simp)
  have hS : Same t.W (t.W.putObj b (.deferred none)) := same_putObj h3 rfl rfl
  have hl : SameLoops t.W (t.W.putObj b (.deferred none)) := by
   intro l lr hlr
   rw [World.putObj_heap_other]
   ·exact hlr
   ·rintro rfl
    rw [h3] at hlr
    cases hlr
  have hx2 := hx.same hS (fun b' hb' => World.putObj_heap_other (by have := hm.ilt b' hb'; omega)) (below_putObj (by have := hm.bsz; omega))
  refine ⟨(by intro h; cases h), .inl ⟨b, _, rfl, run_takeDeferred h3, ?_⟩⟩
  refine leave_ok hE hm bs { t with W := t.W.putObj b (.deferred none) } (ht.same hS) hx2 ⟨fun i => (hT.tmp i).same hS hl, hT.gl.same hS⟩ hU (List.nodup_cons.1 hnd).2 (fun b' hb' => ?_) hv hK
  obtain ⟨g1, g2, g3⟩ := hb b' (by simp [hb'])
  refine ⟨g1, g2, ?_⟩
  show (t.W.putObj b _).heap[b']? = _
  rw [World.putObj_heap_other]
  ·exact g3
  ·rintro rfl
   exact (List.nodup_cons.1 hnd).1 hb'
def LoopsOk (E : TE) (S : FuncId → Option Sum) (inlP : (β : Type) → FuncId → V → HF → (V → HF → Option β) → Option β) (ann : Nat → Nat → Option LoopSum) (f : FuncId) (fn : Func) : Prop :=
 ∀ base, ∀ p ∈ loopsIn (bodyOf fn) 0, ∀ a, ann base p.1 = some a → LoopOk E S inlP ann fn.ntmps f base p.2 a
def RngOk (f : FuncId) (fn : Func) : Prop := match rtab f with
 | some q => q.nt = fn.ntmps ∧ rangesIn (bodyOf fn) = [(q.ps, q.assign, q.body)]
 | none => rangesIn (bodyOf fn) = []
theorem RngOk.all {f : FuncId} {fn : Func} (h : RngOk f fn) : ∀ p ∈ rangesIn (bodyOf fn), ∃ q, rtab f = some q ∧ p = (q.ps, q.assign, q.body) ∧ q.nt = fn.ntmps := by
 unfold RngOk at h
 intro p hp
 split at h
 ·rename_i q hq
  rw [h.2] at hp
  simp only [List.mem_singleton] at hp
  exact ⟨q, hq, hp, h.1⟩
 ·rw [h] at hp
  cases hp
theorem rng_none {f : FuncId} {fn : Func} (h : rtab f = none) (h2 : rangesIn (bodyOf fn) = []) : RngOk f fn := by
 unfold RngOk
 rw [h]
 exact h2
theorem rng_some {f : FuncId} {fn : Func} (keep : List Nat) (h : rtab f = rfOf fn keep) (hs : (rfOf fn keep).isSome = true) : RngOk f fn := by
 unfold RngOk
 rw [h]
 unfold rfOf at hs ⊢
 unfold bodyOf
 cases hb : fn.body with
 | none => rw [hb] at hs; cases hs
 | some c =>
  rw [hb] at hs
  simp only at hs ⊢
  split at hs
  ·rename_i ps a b hr
   rw [hr]
   exact ⟨rfl, rfl⟩
  ·cases hs
theorem ranges_in : ∀ {c : Code} {ps : Array Tmp} {a b : Code}, rangesIn c = [(ps, a, b)] → (rangesIn a = [] ∧ rangesIn b = []) ∧ ∀ cur, (∀ p ∈ loopsIn a 0, p ∈ loopsIn c cur) ∧ (∀ p ∈ loopsIn b 0, p ∈ loopsIn c cur)
 | .seq x y, ps, a, b, h => by
  simp only [rangesIn] at h
  rcases List.append_eq_cons_iff.1 h with ⟨h1, h2⟩ | ⟨l, h1, h2⟩
  ·obtain ⟨g1, g2⟩ := ranges_in h2
   exact ⟨g1, fun cur => ⟨fun p hp => by simp [loopsIn, (g2 0).1 p hp], fun p hp => by simp [loopsIn, (g2 0).2 p hp]⟩⟩
  ·have h2 : l = [] ∧ rangesIn y = [] := by simpa using h2
   rw [h2.1] at h1
   obtain ⟨g1, g2⟩ := ranges_in h1
   exact ⟨g1, fun cur => ⟨fun p hp => by simp [loopsIn, (g2 0).1 p hp], fun p hp => by simp [loopsIn, (g2 0).2 p hp]⟩⟩
 | .cond c x y, ps, a, b, h => by
  simp only [rangesIn] at h
  rcases List.append_eq_cons_iff.1 h with ⟨h1, h2⟩ | ⟨l, h1, h2⟩
  ·obtain ⟨g1, g2⟩ := ranges_in h2
   exact ⟨g1, fun cur => ⟨fun p hp => by simp [loopsIn, (g2 0).1 p hp], fun p hp => by simp [loopsIn, (g2 0).2 p hp]⟩⟩
  ·have h2 : l = [] ∧ rangesIn y = [] := by simpa using h2
   rw [h2.1] at h1
   obtain ⟨g1, g2⟩ := ranges_in h1
   exact ⟨g1, fun cur => ⟨fun p hp => by simp [loopsIn, (g2 0).1 p hp], fun p hp => by simp [loopsIn, (g2 0).2 p hp]⟩⟩
 | .block id c, ps, a, b, h => by
  simp only [rangesIn] at h
  obtain ⟨g1, g2⟩ := ranges_in h
  exact ⟨g1, fun cur => ⟨fun p hp => by simp [loopsIn, (g2 id).1 p hp], fun p hp => by simp [loopsIn, (g2 id).2 p hp]⟩⟩
 | .scope c, ps, a, b, h => by
  simp only [rangesIn] at h
  obtain ⟨g1, g2⟩ := ranges_in h
  exact ⟨g1, fun cur => ⟨fun p hp => by simp [loopsIn, (g2 0).1 p hp], fun p hp => by simp [loopsIn, (g2 0).2 p hp]⟩⟩
 | .loop c, ps, a, b, h => by
  simp only [rangesIn] at h
  obtain ⟨g1, g2⟩ := ranges_in h
  exact ⟨g1, fun cur => ⟨fun p hp => by simp [loopsIn, (g2 0).1 p hp], fun p hp => by simp [loopsIn, (g2 0).2 p hp]⟩⟩
 | .rangeFunc g qs x y, ps, a, b, h => by
  simp only [rangesIn, List.cons.injEq, Prod.mk.injEq, List.append_eq_nil_iff] at h
  obtain ⟨⟨rfl, rfl, rfl⟩, h⟩ := h
  exact ⟨h, fun cur => ⟨fun p hp => by simp [loopsIn, hp], fun p hp => by simp [loopsIn, hp]⟩⟩
 | .skip, _, _, _, h => by cases h
 | .region _ _ _, _, _, _, h => by cases h
 | .exit _, _, _, _, h => by cases h
 | .ret, _, _, _, h => by cases h
 | .label _, _, _, _, h => by cases h
 | .goto _, _, _, _, h => by cases h
theorem lenL0_rel {s : S4} : ∀ {v : V} {l : List Value}, RelVL0 s v l → lenL v = l.length := by
 intro v
 induction v with
 | cons a b _ ih =>
  rintro l ⟨x, r, rfl, _, h2⟩
  simp [lenL, ih h2]
 | nil => intro l h; simp only [RelVL0] at h; subst h; rfl
 | _ => intro l h; simp only [RelVL0] at h
theorem keepT_rel {s : S4} {tmps : Array Value} : ∀ {l : List Nat} {v : V}, RelVL0 s v (l.map fun i => tmps.getD i undef) → ∀ j, RelV s (keepT l v j) (tmps.getD j undef)
 | [], v, h, j => by
  cases v <;> exact relV_undef
 | i :: l, v, h, j => by
  cases v with
  | cons a b =>
   obtain ⟨x, r, e, h1, h2⟩ := h
   simp only [List.map_cons, List.cons.injEq] at e
   obtain ⟨rfl, rfl⟩ := e
   simp only [keepT]
   cases hj : Nat.beq j i with
   | true =>
    have := nat_beq hj
    subst this
    exact h1.to.toV
   | false => exact keepT_rel h2 j
  | _ => exact relV_undef
theorem putPs_rel {s : S4} {nt : Nat} : ∀ {ps : List Nat} {v : V} {l : List Value} {T : TF} {tmps : Array Value}, RelVL0 s v l → (∀ j, RelV s (T j) (tmps.getD j undef)) → GlobW s.W s.I → tmps.size = nt →
  (∀ j, RelV s (putPs nt ps v T j) (((ps.zip l).foldl (fun tmps (t, a) => tmps.setIfInBounds t a) tmps).getD j undef)) ∧ ((ps.zip l).foldl (fun tmps (t, a) => tmps.setIfInBounds t a) tmps).size = nt
 | [], v, l, T, tmps, h, ht, hg, hn => by
  cases v <;> exact ⟨ht, hn⟩
 | p :: ps, v, l, T, tmps, h, ht, hg, hn => by
  cases v with
  | cons a b =>
   obtain ⟨x, r, rfl, h1, h2⟩ := h
   simp only [putPs, List.zip_cons_cons, List.foldl_cons]
   refine putPs_rel h2 ?_ hg (by simpa using hn)
   exact (trel_put (a := { tmps := tmps, defers := [] }) (dst := some p) ⟨ht, hg⟩ hn h1.to.toV).tmp
  | nil =>
   simp only [RelVL0] at h
   subst h
   exact ⟨ht, hn⟩
  | _ => simp only [RelVL0] at h
section
variable {P : Program} {E : TE} {S : FuncId → Option Sum}
theorem runFun_ok {inlP : (β : Type) → FuncId → V → HF → (V → HF → Option β) → Option β} {ann : Nat → Nat → Option LoopSum} (hvP : ∀ β, Env P E S (inlP β)) {f : FuncId} {fn : Func} (hf : P.funcs[f]? = some fn) (hname : (fn.name == "runtime.NumGoroutine") = false) (hL : LoopsOk E S inlP ann f fn) (hG : RngOk f fn) {β : Type} {args : V} {B : Nat} {s : S4} {l : List Value} {K : V → HF → Option β} {r : β}
  (hK : runFun E S (inlP β) ann f fn args s.H K = some r) (hm : MemOk B s) (hg : GlobW s.W s.I) (hcB : B ≤ s.cur) (hl : RelVL s args l) :
  CallOk P B s f l.toArray fun t x => (∀ k, t.U k → s.U k ∨ s.H.nx ≤ k) ∧ ∃ v lv, RelVL t v lv ∧ x = outValue lv ∧ K v t.H = some r := by
 unfold runFun at hK
 split at hK
 ·cases hK
 ·rename_i c hc
  split at hK
  case h_2 => cases hK
  rename_i hsz
  have hsz : lenL args ≤ fn.ntmps := by simpa [Nat.ble_eq] using hsz
  refine ⟨⟨fn, hf, hname, by rw [hc]; rfl⟩, FR_calls (ro := none) (callsIn_of_wp_marks (n := 0) hf hc trivial ?_)⟩
  have hlen := lenL_rel hl
  have hfr : Fr none B s fn.ntmps (argT args 0) { tmps := l.toArray ++ Array.replicate (fn.ntmps - l.toArray.size) undef, defers := [] } s := by
   refine ⟨hm, Ext.refl B s, ⟨fun i => ?_, hg⟩, Marks.nil _ _ _, ?_, fun k hk => .inl hk⟩
   ·rcases argT_rel (n := 0) (i := i) hl with h | ⟨x, _, h2, h3⟩
    ·rw [h]; exact relV_undef
    ·have hi := (List.getElem?_eq_some_iff.1 h2).1
     have : (l.toArray ++ Array.replicate (fn.ntmps - l.toArray.size) undef).getD i undef = x := by
      rw [Array.getD_eq_getD_getElem?, Array.getElem?_append_left (by simpa using hi)]
      simp only [Nat.sub_zero] at h2
      simp [h2]
     rw [this]
     exact h3
   ·simp
    omega
  have hLb : ∀ p ∈ loopsIn c 0, ∀ a, ann s.H.nx p.1 = some a → LoopOk E S inlP ann fn.ntmps f s.H.nx p.2 a := by
   have : bodyOf fn = c := by unfold bodyOf; rw [hc]
   rw [← this]
   exact hL s.H.nx
  have hRb : ∀ p ∈ rangesIn c, (none : Option Nat) = none ∧ ∃ q, rtab f = some q ∧ p = (q.ps, q.assign, q.body) ∧ q.nt = fn.ntmps := by
   have : bodyOf fn = c := by unfold bodyOf; rw [hc]
   rw [← this]
   exact fun p hp => ⟨rfl, hG.all p hp⟩
  refine wpIn_mono (den_ok hvP hm hcB c 0 hLb hRb β (argT args 0) _ s _ r hfr hK) ?_
  rintro e a w ⟨ex, T, t, rfl, rfl, h, hK'⟩
  have fin : ∀ v, resV E T t.H fn.results.toList = some v → K v (healL t.H v.rows) = some r → LeavesInM (FR none) 0 P fn a.tmps (fun e W' =>
    ∃ t' x', e = .returned x' ∧ t'.W = W' ∧ MemOk B t' ∧ Ext B s t' ∧ (∀ k, t'.U k → s.U k ∨ s.H.nx ≤ k) ∧ ∃ v lv, RelVL t' v lv ∧ x' = outValue lv ∧ K v t'.H = some r) a.defers .returning t.W := by
   intro v hv' hKr
   obtain ⟨bs, hd, hnd, hbs⟩ := h.d
   rw [hd]
   exact leave_ok (hvP β).E hm bs t h.m h.x h.t h.u hnd hbs hv' hKr
  cases ex with
  | normal =>
   simp only [endK] at hK'
   split at hK'
   ·rename_i v hv'
    exact fin v hv' hK'
   ·cases hK'
  | exit i => simp only [endK] at hK'; cases hK'
  | ret =>
   simp only [endK] at hK'
   split at hK'
   ·rename_i v hv'
    exact fin v hv' hK'
   ·cases hK'
theorem runRound_ok {inlP : (β : Type) → FuncId → V → HF → (V → HF → Option β) → Option β} {ann : Nat → Nat → Option LoopSum} (hvP : ∀ β, Env P E S (inlP β)) {f : FuncId} {q : RF} (hL : ∀ base, ∀ p, (p ∈ loopsIn q.assign 0 ∨ p ∈ loopsIn q.body 0) → ∀ a, ann base p.1 = some a → LoopOk E S inlP ann q.nt f base p.2 a) (hR : rangesIn q.assign = [] ∧ rangesIn q.body = []) {β : Type} {vals ws : V} {B : Nat} {s : S4} {l : Nat} {lr : Loop} {args : List Value} {K : V → HF → Option β} {r : β}
  (hK : runRound E S (inlP β) ann f q vals ws s.H K = some r) (hm : MemOk B s) (hg : GlobW s.W s.I) (hcB : B ≤ s.cur) (hdn : s.H.dn = false) (hy : YldAt s f vals l lr q) (hw : RelVL0 s ws args) : RoundOk P B s l lr args fun t x => (∀ k, t.U k → s.U k ∨ s.H.nx ≤ k) ∧ ∃ v, RelV t v x ∧ K v t.H = some r := by
 unfold runRound at hK
 split at hK
 case h_2 => cases hK
 rename_i hlen
 have hlen := nat_beq hlen
 rw [lenL0_rel hw] at hlen
 refine ⟨by rw [hlen, hy.hp], ?_⟩
 refine roundIn_of_wpIn trivial ?_
 rw [hy.ha, hy.hb]
 obtain ⟨p1, p2⟩ := putPs_rel (ps := q.ps.toList) (nt := q.nt) hw (keepT_rel hy.v) hg hy.nt
 have ef : (lr.params.zip args.toArray).foldl (fun tmps (t, a) => tmps.setIfInBounds t a) lr.tmps = (q.ps.toList.zip args).foldl (fun tmps (t, a) => tmps.setIfInBounds t a) lr.tmps := by
  rw [hy.hp, ← Array.foldl_toList]
  simp
 rw [ef]
 have h0 : Fr (some l) B s q.nt (putPs q.nt q.ps.toList ws (keepT q.keep vals)) { tmps := (q.ps.toList.zip args).foldl (fun tmps (t, a) => tmps.setIfInBounds t a) lr.tmps, defers := [] } s :=
  ⟨hm, Ext.refl B s, ⟨p1, hg⟩, rfl, p2, fun k hk => .inl hk⟩
 refine wpIn_mono (show Code.wpIn (FR (some l)) 0 P _ _ _ _ from den_ok hvP hm hcB (fi := f) (ro := some l) q.assign 0 (fun p hp => hL _ p (.inl hp)) (fun p hp => by rw [hR.1] at hp; cases hp) β _ _ s _ r h0 hK) ?_
 rintro e a1 w1 ⟨ex, T1, s1, rfl, rfl, h1, hK1⟩
 cases ex with
 | exit i => cases hK1
 | ret => cases hK1
 | normal =>
  simp only [roundK1] at hK1
  split at hK1
  case h_2 => cases hK1
  rename_i hdn1
  have hl1 : s1.W.heap[l]? = some (.loop lr) := ((h1.x.w l hy.i).undone hdn1).trans (hy.w hdn)
  refine ⟨_, run_beginRound hl1 hy.st, ?_⟩
  have hS : Same s1.W (s1.W.putObj l (.loop { lr with state := .busy })) := same_putObj hl1 rfl rfl
  have hlt : l < s1.W.heap.size := (Array.getElem?_eq_some_iff.1 hl1).1
  have m2 : MemOk B { s1 with W := s1.W.putObj l (.loop { lr with state := .busy }) } := h1.m.same (c0 := s1.cur) (d0 := s1.H.dn) hS
  have h2 : Fr (some l) B { s1 with W := s1.W.putObj l (.loop { lr with state := .busy }) } q.nt (dropY T1) a1 { s1 with W := s1.W.putObj l (.loop { lr with state := .busy }) } := by
   refine ⟨m2, Ext.refl B _, ⟨fun i => ?_, h1.t.gl.same hS⟩, h1.d, h1.n, fun k hk => .inl hk⟩
   unfold dropY
   split
   ·rename_i hY
    simp only [Bool.and_eq_true, Bool.not_eq_true'] at hY
    exact (h1.t.tmp i).sameN (c0 := s1.cur) (d0 := s1.H.dn) hS hY.2 (fun w e => by have := hY.1; rw [e] at this; cases this)
   ·exact relV_undef
  refine wpIn_mono (show Code.wpIn (FR (some l)) 0 P _ _ _ _ from den_ok hvP m2 (by show B ≤ s1.cur; rw [h1.x.cu]; exact hcB) (fi := f) (ro := some l) q.body 0 (fun p hp => hL _ p (.inr hp)) (fun p hp => by rw [hR.2] at hp; cases hp) β _ _ { s1 with W := s1.W.putObj l (.loop { lr with state := .busy }) } _ r h2 hK1) ?_
  rintro e a3 w3 ⟨ex, T3, s3, rfl, rfl, h3, hK3⟩
  have hl2 : ({ s1 with W := s1.W.putObj l (.loop { lr with state := .busy }) } : S4).W.heap[l]? = some (.loop { lr with state := .busy }) := World.putObj_heap_same hlt
  -- from the round's beginning to its end
  have fin : s3.H.dn = false → ∀ (lr' : Loop) (d : Bool), (d = false → lr' = lr) → (d = true → lr' = doneL lr) → s3.W.heap[l]? = some (.loop { lr with state := .busy }) →
    MemOk B { s3 with W := s3.W.putObj l (.loop lr'), H := { s3.H with dn := d } } ∧ Ext B s { s3 with W := s3.W.putObj l (.loop lr'), H := { s3.H with dn := d } } ∧ (∀ k, s3.U k → s.U k ∨ s.H.nx ≤ k) := by
   intro hdn3 lr' d hd0 hd1 hl3
   have hS3 : Same s3.W (s3.W.putObj l (.loop lr')) := same_putObj hl3 rfl rfl
   have hlt3 : l < s3.W.heap.size := (Array.getElem?_eq_some_iff.1 hl3).1
   have hcu : s1.cur = s.cur := h1.x.cu
   have hcu3 : s3.cur = s1.cur := h3.x.cu
   have hne : ∀ b, s.I b → b ≠ l → (s3.W.putObj l (.loop lr')).heap[b]? = s.W.heap[b]? := by
    intro b hb e
    have q1 : s3.W.heap[b]? = (s1.W.putObj l (.loop { lr with state := .busy })).heap[b]? := (h3.x.w b (h1.x.i b hb)).undone hdn3
    rw [World.putObj_heap_other e, q1, World.putObj_heap_other e]
    exact (h1.x.w b hb).undone hdn1
   refine ⟨h3.m.same (c0 := s3.cur) (d0 := d) hS3, ⟨fun b hb => h3.x.i b (h1.x.i b hb), fun b hb => (h3.x.inew b hb).elim (h1.x.inew b) .inr, fun b hb => ?_, ⟨h3.x.below.os.trans h1.x.below.os, h3.x.below.tape.trans h1.x.below.tape, h3.x.below.output.trans h1.x.below.output, ?_, fun k hk => ?_⟩, fun k hk => h3.x.u k (h1.x.u k hk), Nat.le_trans h1.x.nx h3.x.nx, fun k c' hu hc => ?_, fun k r' hu hr => ?_, fun k hu => (h3.x.pl k (h1.x.u k hu)).trans (h1.x.pl k hu), hcu3.trans hcu, (fun hd => by rw [hdn] at hd; cases hd), fun k hu => (h3.x.fam k (h1.x.u k hu)).trans (h1.x.fam k hu)⟩, fun k hk => ?_⟩
   ·by_cases e : b = l
    ·subst e
     cases d with
     | false =>
      refine .eq ?_ hdn.symm
      show (s3.W.putObj b (.loop lr')).heap[b]? = _
      rw [World.putObj_heap_same hlt3, hy.w hdn, hd0 rfl]
     | true =>
      refine .inr ⟨hy.cu, hdn, rfl, lr, hy.w hdn, ?_⟩
      show (s3.W.putObj b (.loop lr')).heap[b]? = _
      rw [World.putObj_heap_same hlt3, hd1 rfl]
    ·exact .inl ⟨hne b hb e, fun hh => e (hh.1.trans hy.cu.symm)⟩
   ·have q1 := h1.x.below.size
    have q2 := h3.x.below.size
    simp only [World.putObj_size] at q2 ⊢
    omega
   ·have hkl : k ≠ l := by
     have q1 := hy.cu
     omega
    rw [World.putObj_heap_other hkl, h3.x.below.block k hk, ← h1.x.below.block k hk]
    exact World.putObj_heap_other hkl
   ·obtain ⟨c1, g1, g2, g3⟩ := h3.x.var k c' (h1.x.u k hu) hc
    obtain ⟨c2, k1, k2, k3⟩ := h1.x.var k c1 hu g1
    exact ⟨c2, k1, g2.trans k2, g3.trans k3⟩
   ·obtain ⟨g1, g5⟩ := h3.x.row k r' (h1.x.u k hu) hr
    obtain ⟨k1, k5⟩ := h1.x.row k r' hu g1
    refine ⟨k1, fun b base hp => ?_⟩
    have q1 := g5 b base (by rw [show ({ s1 with W := s1.W.putObj l (.loop { lr with state := .busy }) } : S4).ρ.row k = s1.ρ.row k from rfl, h1.x.pl k hu]; exact hp)
    exact (hS3.bs b).trans (q1.trans ((hS.bs b).trans (k5 b base hp)))
   ·rcases h3.u k hk with hk | hk
    ·exact h1.u k hk
    ·exact .inr (Nat.le_trans h1.x.nx hk)
  cases ex with
  | exit i => cases hK3
  | ret =>
   simp only [roundK2] at hK3
   split at hK3
   case h_2 => cases hK3
   rename_i hdn3
   have hl3 : s3.W.heap[l]? = some (.loop { lr with state := .busy }) := ((h3.x.w l (h1.x.i l hy.i)).undone hdn3).trans hl2
   refine ⟨_, _, run_endRound (some .ret) hl3, ?_⟩
   have elr : ({ ({ lr with state := .busy } : Loop) with state := if (some Code.ret).isNone then LoopState.ready else .done, pending := some .ret } : Loop) = doneL lr := rfl
   rw [elr]
   obtain ⟨f1, f2, f3⟩ := fin hdn3 (doneL lr) true (fun h => by cases h) (fun _ => rfl) hl3
   exact ⟨_, .bool false, rfl, rfl, f1, f2, f3, .d .bool false, bool_relV, hK3⟩
  | normal =>
   simp only [roundK2] at hK3
   split at hK3
   case h_2 => cases hK3
   rename_i hdn3
   have hl3 : s3.W.heap[l]? = some (.loop { lr with state := .busy }) := ((h3.x.w l (h1.x.i l hy.i)).undone hdn3).trans hl2
   refine ⟨_, _, run_endRound none hl3, ?_⟩
   have elr : ({ ({ lr with state := .busy } : Loop) with state := if (none : Option Code).isNone then LoopState.ready else .done, pending := none } : Loop) = lr := by
    have e1 := hy.st
    have e2 := hy.pe
    cases lr
    simp only at e1 e2
    subst e1 e2
    rfl
   rw [elr]
   obtain ⟨f1, f2, f3⟩ := fin hdn3 lr false (fun _ => rfl) (fun h => by cases h) hl3
   have eH : ({ s3.H with dn := false } : HF) = s3.H := by rw [← hdn3]
   exact ⟨_, .bool true, rfl, rfl, f1, f2, f3, .d .bool true, bool_relV, by show K _ ({ s3.H with dn := false } : HF) = _; rw [eH]; exact hK3⟩
theorem insI_len (x : Int) : ∀ l, (insI x l).length = l.length + 1
 | [] => rfl
 | y :: r => by
  simp only [insI]
  cases decide (x ≤ y) with
  | true => rfl
  | false => show (y :: insI x r).length = _; simp [insI_len x r]
theorem isort_len : ∀ l, (isort l).length = l.length
 | [] => rfl
 | x :: r => by simp [isort, insI_len, isort_len r]
theorem srt_ok {f g : Nat} (hs : SrtOk P f g) {β : Type} {args : V} {B : Nat} {s : S4} {l : List Value} {K : V → HF → Option β} {r : β} (hK : srtK g args s.H K = some r) (hm : MemOk B s) (hl : RelVL s args l) :
  CallOk P B s f l.toArray fun t x => (∀ k, t.U k → s.U k ∨ s.H.nx ≤ k) ∧ ∃ v, RelV t v x ∧ K v t.H = some r := by
 unfold srtK at hK
 split at hK
 case h_2 => cases hK
 rename_i g' c
 split at hK
 case h_2 => cases hK
 rename_i hg
 have hg := nat_beq hg
 subst hg
 split at hK
 case h_2 => cases hK
 rename_i k hc
 split at hK
 case h_2 => cases hK
 rename_i u xs hk
 cases ha : xs.all (fun p => inI64 p.1) with
 | false => rw [ha] at hK; cases hK
 | true =>
 rw [ha] at hK
 cases hb : decide (xs.length * 8 ≤ maxBytes) with
 | false => rw [hb] at hK; cases hK
 | true =>
 rw [hb] at hK
 have hb := of_decide_eq_true hb
 have hK : K (.row s.H.nx) { (s.H.setRow s.H.nx ⟨.int .i64, isort (xs.map fun p => p.1), true⟩) with nx := s.H.nx + 1 } = some r := hK
 obtain ⟨x, l', rfl, hx, hl'⟩ := hl
 simp only [RelVL] at hl'
 subst hl'
 obtain ⟨cs, hr, hv⟩ := hx.toV.get (by intro h; cases h) (by intro w h; cases h)
 obtain ⟨l1, m1, rfl, h1, h2⟩ := relC_fn hr rfl
 have ex := isVal_one hv rfl
 subst ex
 simp only [RelL] at h1 h2
 subst h1
 obtain ⟨w, m2, cw, rfl, hw, hwv, rfl⟩ := h2
 simp only [RelC] at hw
 obtain ⟨_, w', rfl, _, hw⟩ := hw
 obtain ⟨_, o, ho, rfl⟩ := hw _ (var_pv hc rfl)
 have ew := isVal_one hwv rfl
 subst ew
 rw [off_nil] at ho
 injection ho with ho
 subst ho
 obtain ⟨_, _, _, oc, hoc, csc, tc, rfl, hrc⟩ := hm.var c _ hc
 simp only [RelC] at hrc
 obtain ⟨_, z, hz, _, hzk⟩ := hrc
 obtain ⟨_, rfl⟩ := hzk _ (var_pv hk rfl)
 have ecs : csc = #[.map (some (s.ρ.var k))] := by apply Array.ext'; rw [hz]
 subst ecs
 obtain ⟨_, _, _, ok, hok, es, clock, rfl, ⟨q1, q2, q3, q5, q4⟩⟩ := hm.var k _ hk
 have hlen : (xs.map fun p => p.1).length = xs.length := by simp
 subst q3
 rw [← hlen] at hok
 have hcall := hs.2 s.W (s.ρ.var c) (s.ρ.var k) tc es (xs.map fun p => p.1) hoc hok (by rw [hlen]; exact q2) (fun i y hi => by
   rw [List.getElem?_map] at hi
   obtain ⟨p, hp, rfl⟩ := Option.map_eq_some_iff.1 hi
   obtain ⟨e, e1, e2, e3, _⟩ := q4 i p hp
   exact ⟨e, e1, e2, e3⟩) q5 (fun y hy => by
   obtain ⟨p, hp, rfl⟩ := List.mem_map.1 hy
   exact List.all_eq_true.1 ha p hp) (by rw [hlen]; exact hb)
 refine ⟨⟨hs.1⟩, hcall.mono ?_⟩
 rintro e W' ⟨v, rfl, hbel, hv⟩
 have wk : WKeep B s W' := ⟨⟨hbel.os, hbel.tape, hbel.output, hbel.size, fun j hj => hbel.block j (Nat.lt_of_lt_of_le hj hm.bsz)⟩, hbel.size, fun j hj => hbel.block j hj⟩
 obtain ⟨m3, x3⟩ := bump_ok (wk.memOk hm)
 have x03 := (wk.ext hm).trans x3
 have hun : ¬ (s.setW W').bump.U s.H.nx := fun hk => Nat.lt_irrefl _ (hm.un _ hk)
 have key : ∀ pl, ((isort (xs.map fun p => p.1) = [] ∧ pl = none) ∨ ∃ b base, pl = some (b, base) ∧ Free B (s.setW W').bump b ∧ RowAt (s.setW W').bump ⟨.int .i64, isort (xs.map fun p => p.1), true⟩ b base) →
   RelV ((s.setW W').bump.addRow s.H.nx pl ⟨.int .i64, isort (xs.map fun p => p.1), true⟩) (.row s.H.nx) v →
   ∃ t x, Ending.returned v = .returned x ∧ t.W = W' ∧ MemOk B t ∧ Ext B s t ∧ (∀ k, t.U k → s.U k ∨ s.H.nx ≤ k) ∧ ∃ v, RelV t v x ∧ K v t.H = some r := by
  intro pl hpl hrel
  refine ⟨_, v, rfl, rfl, memOk_addRow m3 hun (Nat.lt_succ_self _) (show 0 < U.size (.int .i64) by decide) rfl hpl, x03.trans (ext_addRow hun), fun j hj => ?_, _, hrel, hK⟩
  rcases hj with hj | hj
  ·exact .inl hj
  ·exact .inr (Nat.le_of_eq hj.symm)
 rcases hv with ⟨rfl, h0⟩ | ⟨q, cap, cur, ty, rfl, g1, g2, g3, g4, g5⟩
 ·have e0 : isort (xs.map fun p => p.1) = [] := by rw [h0]; rfl
  refine key none (.inl ⟨e0, rfl⟩) (.inr ⟨[_], relT_of ?_, rfl⟩)
  simp only [RelC]
  refine ⟨.inr rfl, _, rfl, rfl, fun r' hr' => ?_⟩
  rcases addRow_geo hr' with ⟨_, rfl⟩ | ⟨hne, _⟩
  ·rw [e0]
   exact ⟨none, 0, rfl, Nat.le_refl _, .inl rfl⟩
  ·exact absurd rfl hne
 ·have hfree : Free B (s.setW W').bump q := ⟨Nat.le_trans hm.bsz g1, fun hI => by have := hm.ilt q hI; omega, fun j d hj => by have := hm.varlt (k := j) (c := d) hj; show s.ρ.var j ≠ q; omega, fun j r' b0 hj _ hp => by have := hm.rowlt (k := j) (r := r') hj hp; omega, fun j i hb => by have := (hm.dj.inlt (k := j) (i := i) (b := q) hb).1; omega⟩
  have hil := isort_len (xs.map fun p => p.1)
  refine key (some (q, 0)) (.inr ⟨q, 0, rfl, hfree, cur, ty, g2, ?_, fun i y hi => ⟨[.int .i64 y], rfl, fun j v hj => ?_⟩⟩) (.inr ⟨[_], relT_of ?_, rfl⟩)
  ·show 0 + (isort (xs.map fun p => p.1)).length * 1 ≤ cur.size
   rw [hil]
   omega
  ·have hj0 : j = 0 := by
    rcases j with _ | j
    ·rfl
    ·simp at hj
   subst hj0
   have hj : some (Value.int .i64 y) = some v := hj
   injection hj with hj
   subst hj
   show cur[0 + i * 1 + 0]? = _
   have hi2 := (List.getElem?_eq_some_iff.1 hi).1
   have : (cur.toList.take (xs.map fun p => p.1).length)[i]? = some (Value.int .i64 y) := by
    rw [g5, List.getElem?_map, hi]
    rfl
   rw [List.getElem?_take, if_pos (by rw [hil] at hi2; exact hi2), Array.getElem?_toList] at this
   simpa using this
  ·simp only [RelC]
   refine ⟨.inr rfl, _, rfl, rfl, fun r' hr' => ?_⟩
   rcases addRow_geo hr' with ⟨_, rfl⟩ | ⟨hne, _⟩
   ·refine ⟨_, cap, by rw [hil], by rw [hil]; exact g3, .inr ⟨q, 0, by simp [S4.addRow], by simp, ?_⟩⟩
    show 0 + (0 + cap) * 1 ≤ bsize W' q
    rw [bsize_at g2]
    omega
   ·exact absurd rfl hne
def FnsOk (P : Program) (fns : FuncId → Option Func) : Prop := ∀ f fn, fns f = some fn → (P.funcs[f]? = some fn ∧ (fn.name == "runtime.NumGoroutine") = false) ∧ RngOk f fn
def AnnOk (E : TE) (S : FuncId → Option Sum) (fns : FuncId → Option Func) (ann : Nat → FuncId → Nat → Nat → Option LoopSum) (depth : Nat) : Prop :=
 ∀ n f fn, n < depth → fns f = some fn → LoopsOk E S (fun β => inlD E S fns ann n (β := β)) (ann n f) f fn
theorem inl_ok (hE : TEok P E) (hS : ∀ f sm, S f = some sm → SemOf P f sm) {fns : FuncId → Option Func} (hF : FnsOk P fns) {ann : Nat → FuncId → Nat → Nat → Option LoopSum} {depth : Nat} (hA : AnnOk E S fns ann depth) : ∀ n, n ≤ depth → ∀ β, InlOk (β := β) P (inlD E S fns ann n)
 | 0, _, β => ⟨(by intro f args B s l K r hK; cases hK), (by intro f vals ws B s l lr q args K r hK; cases hK)⟩
 | n + 1, hn, β => by
  have hvP : ∀ β, Env P E S (inlD E S fns ann n (β := β)) := fun β => ⟨hE, hS, inl_ok hE hS hF hA n (Nat.le_of_succ_le hn) β⟩
  refine ⟨?_, ?_⟩
  ·intro f args B s l K r hK hm hg hcB hl
   simp only [inlD] at hK
   split at hK
   ·rename_i g hg
    exact srt_ok (hE.srt f g hg) hK hm hl
   split at hK
   ·cases hK
   ·rename_i fn hfn
    have hna : roundArgs args = none := by
     unfold roundArgs
     split
     ·simp only [RelVL] at hl
     ·rfl
    rw [hna] at hK
    obtain ⟨⟨h1, h2⟩, h3⟩ := hF f fn hfn
    obtain ⟨g1, g2⟩ := runFun_ok (inlP := fun β => inlD E S fns ann n (β := β)) hvP h1 h2 (hA n f fn hn hfn) h3 hK hm hg hcB hl
    refine ⟨g1, g2.mono ?_⟩
    rintro e W' ⟨t, x, rfl, rfl, hm', hx, hU, v, lv, hr, rfl, hKr⟩
    exact ⟨t, _, rfl, rfl, hm', hx, hU, _, out_rel hr, hKr⟩
  ·intro f vals ws B s l lr q args K r hK hm hg hcB hdn hy hw
   simp only [inlD, roundArgs] at hK
   split at hK
   ·cases hK
   split at hK
   ·cases hK
   ·rename_i fn hfn
    rw [hy.hq] at hK
    obtain ⟨_, hrng⟩ := hF f fn hfn
    unfold RngOk at hrng
    rw [hy.hq] at hrng
    obtain ⟨hnt, hrng⟩ := hrng
    obtain ⟨g1, g2⟩ := ranges_in hrng
    refine runRound_ok (inlP := fun β => inlD E S fns ann n (β := β)) hvP (fun base p hp a ha => ?_) g1 hK hm hg hcB hdn hy hw
    have := hA n f fn hn hfn base p (hp.elim ((g2 0).1 p) ((g2 0).2 p)) a ha
    rw [hnt]
    exact this
end
theorem argV_rel {s : S4} : ∀ {a : U} {x : a.T} {l : List Value}, RelArgs s.W s.I a x l → RelVL s (argV a x) l
 | .cons a b, x, l, h => by
  obtain ⟨v, r, cs, rfl, h1, h2, h3⟩ := h
  refine ⟨v, r, rfl, .inr ⟨cs, relT_of (by simp only [RelC]; exact h1), by simpa [V.agg, V.sk, U.sk_agg] using h2⟩, argV_rel h3⟩
 | .nil, _, l, h => h
 | .int _, _, _, h => by simp only [RelArgs] at h
 | .bool, _, _, h => by simp only [RelArgs] at h
 | .fn, _, _, h => by simp only [RelArgs] at h
 | .sl _, _, _, h => by simp only [RelArgs] at h
 | .arr _ _, _, _, h => by simp only [RelArgs] at h
end Go.Proofs.YtdokfjkihjkcmaaGreatDoor.Den

/- A function's summary, from the evaluator. -/
namespace Go.Proofs.YtdokfjkihjkcmaaGreatDoor.Den
open Go Go.RowKit
set_option linter.unusedVariables false
set_option linter.unusedSectionVars false
theorem own_of_row {B : Nat} {s : S4} (h : MemOk B s) {k : Nat} {u : U} {xs : List u.T} {x : Value} (hx : RelV s (.row k) x) (hr : s.H.row k = some ⟨u, xs, true⟩) {J : Nat → Prop} (hJ : ∀ b, s.I b → J b) (hn : ∀ b base, s.ρ.row k = some (b, base) → ¬ J b) :
  OwnAt s.W J B u xs x ((s.ρ.row k).map Prod.fst).toList := by
 obtain ⟨_, _, hv⟩ := relV_row hx
 have hv := hv _ hr
 obtain ⟨_, hz, h3⟩ := h.row k _ hr
 refine ⟨hz, s.ρ.row k, hv, rfl, fun hp => ?_, fun b base hp => ?_⟩
 ·rcases h3 with h3 | ⟨b, base, cur, t, e, _⟩
  ·exact h3.1
  ·rw [hp] at e; cases e
 ·rcases h3 with h3 | ⟨b', base', cur, t, e, hh, hw, _, hs, hel⟩
  ·rw [h3.2] at hp; cases hp
  ·rw [hp] at e
   injection e with e
   injection e with e1 e2
   subst e1 e2
   exact ⟨(hw rfl).1, hn b base hp, cur, t, hh, hs, fun i x hi => by
    obtain ⟨c, hc, hcc⟩ := hel i x hi
    exact ⟨c, hc.mono hJ (fun _ _ => rfl), hcc⟩⟩
def blkOf (s : S4) (k : Nat) : List Nat := match s.H.row k with
 | some _ => ((s.ρ.row k).map Prod.fst).toList
 | none => match s.H.var k with
  | some (.mapd _ _) => [s.ρ.var k]
  | _ => []
theorem blkOf_row {s : S4} {k : Nat} {r : Row} (h : s.H.row k = some r) : blkOf s k = ((s.ρ.row k).map Prod.fst).toList := by unfold blkOf; rw [h]
theorem blkOf_map {s : S4} {k : Nat} {u : U} {xs : List (Int × u.T × Unit)} (h : s.H.row k = none) (hv : s.H.var k = some (.mapd u xs)) : blkOf s k = [s.ρ.var k] := by unfold blkOf; rw [h, hv]
theorem blkOf_mem {s : S4} {k b : Nat} (h : b ∈ blkOf s k) : (∃ r base, s.H.row k = some r ∧ s.ρ.row k = some (b, base)) ∨ (s.H.row k = none ∧ (∃ u xs, s.H.var k = some (.mapd u xs)) ∧ b = s.ρ.var k) := by
 unfold blkOf at h
 split at h
 ·rename_i r hr
  cases hp : s.ρ.row k with
  | none => rw [hp] at h; simp at h
  | some p =>
   obtain ⟨b', base⟩ := p
   rw [hp] at h
   simp at h
   subst h
   exact .inl ⟨r, base, hr, rfl⟩
 ·rename_i hr
  split at h
  ·rename_i u xs hv
   simp at h
   exact .inr ⟨hr, ⟨u, xs, hv⟩, h⟩
  ·simp at h
def OwnK (H : HF) (k : Nat) : Prop := (∃ r', H.row k = some r' ∧ r'.w = true) ∨ (H.row k = none ∧ ∃ u xs, H.var k = some (.mapd u xs))
theorem OwnK.w {H : HF} {k : Nat} (h : OwnK H k) {r : Row} (hr : H.row k = some r) : r.w = true := by
 rcases h with ⟨r', h1, h2⟩ | ⟨h1, _⟩
 ·rw [hr] at h1; cases h1; exact h2
 ·rw [hr] at h1; cases h1
def blocks (s : S4) (ks : List Nat) : List Nat := ks.flatMap (blkOf s)
theorem blocks_app (s : S4) (ks ls : List Nat) : blocks s (ks ++ ls) = blocks s ks ++ blocks s ls := by simp [blocks]
theorem pv_any {s s' : S4} : ∀ {l : List Nat} {cs : List Value}, RelC s (pvV l) cs → RelC s' (pvV l) cs
 | [], cs, h => by simp only [pvV, RelC] at h ⊢; exact h
 | f :: l, cs, h => by
  simp only [pvV, RelC] at h ⊢
  obtain ⟨c1, c2, rfl, h1, h2⟩ := h
  refine ⟨c1, c2, rfl, ?_, pv_any h2⟩
  rcases h1 with ⟨h1, -⟩ | ⟨l1, m1, rfl, h3, h4⟩
  ·cases h1
  ·refine .inr ⟨l1, m1, rfl, ?_, ?_⟩
   ·simp only [RelL] at h3 ⊢; exact h3
   ·simp only [RelL] at h4 ⊢; exact h4
theorem pv_rel {s s' : S4} {t : Nat} {fs : List Nat} {cs : List Value} (h : RelC s (.fn t (.cons (pvV fs) .nil) .undef) cs) : RelC s' (.fn t (.cons (pvV fs) .nil) .undef) cs := by
 simp only [RelC] at h ⊢
 rcases h with ⟨h0, X, rfl, h1⟩ | ⟨l, m, rfl, h1, h2⟩
 ·refine .inl ⟨trivial, X, rfl, ?_⟩
  simp only [RelL] at h1 ⊢
  obtain ⟨v, r, cs, e, h2, h3, h4⟩ := h1
  exact ⟨v, r, cs, e, pv_any h2, h3, h4⟩
 ·simp only [RelL] at h2
theorem send_ok {B : Nat} {s : S4} (h : MemOk B s) {J : Nat → Prop} (hI : ∀ b, s.I b → J b) : ∀ {r : RU} {v : V} {y : r.T} {ks : List Nat} {cs : List Value}, r.send v s.H = some (y, ks) → RelC s v cs →
  (∀ k r' b base, k ∈ r.drows v → s.H.row k = some r' → s.ρ.row k = some (b, base) → J b) → (∀ k, k ∈ ks → ∀ b ∈ blkOf s k, ¬ J b) →
  RelR s.W J B r y cs (blocks s ks) ∧ v.agg = r.agg ∧ ∀ k ∈ ks, OwnK s.H k
 | .d u, v, y, ks, cs, hs, hr, hd, hk => by
  simp only [RU.send] at hs
  split at hs
  ·rename_i x hx
   injection hs with hs
   injection hs with h1 h2
   subst h1 h2
   refine ⟨⟨(deepen_rel h hx hr).mono (fun b hb => ?_) (fun _ _ => rfl), rfl⟩, ?_, by simp⟩
   ·rcases hb with hb | ⟨k, r', base, h1, h2, h3⟩
    ·exact hI b hb
    ·exact hd k r' b base h1 h2 h3
   ·unfold V.agg
    rw [deepen_sk hx, U.sk_agg]
    rfl
  ·cases hs
 | .own u, .row k, y, ks, cs, hs, hr, hd, hk => by
  simp only [RU.send] at hs
  split at hs
  ·rename_i u' xs hrow
   split at hs
   ·rename_i x hc
    injection hs with hs
    injection hs with h1 h2
    subst h1 h2
    obtain ⟨e1, e2⟩ := castT_some hc
    injection e1 with e1
    subst e1
    have e2 : xs = x := by simpa using e2
    subst e2
    have hrel : ∃ w, cs = [w] := by
     simp only [RelC] at hr
     obtain ⟨_, w, rfl, _⟩ := hr
     exact ⟨w, rfl⟩
    obtain ⟨w, rfl⟩ := hrel
    refine ⟨⟨w, rfl, ?_⟩, rfl, fun q hq => ?_⟩
    ·have := own_of_row h (relV_of (v := .row k) hr rfl) hrow hI (fun b base hp => hk k (by simp) b (by rw [blkOf_row hrow, hp]; simp))
     simpa [blocks, blkOf_row hrow] using this
    ·simp at hq
     subst hq
     exact .inl ⟨_, hrow, rfl⟩
   ·cases hs
  ·cases hs
 | .no u, v, y, ks, cs, hs, hr, hd, hk => by
  simp only [RU.send] at hs
  split at hs
  ·rename_i hq
   injection hs with hs
   injection hs with h1 h2
   subst h2
   simp only [Bool.and_eq_true, decide_eq_true_eq] at hq
   refine ⟨⟨⟨?_, hr.one⟩, rfl⟩, ?_, by simp⟩
   ·rw [hr.len, V.size, hq.2, U.sk_size]
   ·rw [V.agg, hq.2, U.sk_agg]; rfl
  ·cases hs
 | .nil, .nil, y, ks, cs, hs, hr, hd, hk => by
  simp only [RU.send] at hs
  injection hs with hs
  injection hs with h1 h2
  subst h2
  simp only [RelC] at hr
  exact ⟨⟨hr, rfl⟩, rfl, by simp⟩
 | .cons a b, .cons va vb, y, ks, cs, hs, hr, hd, hk => by
  simp only [RU.send] at hs
  split at hs
  ·rename_i x l h1
   split at hs
   ·rename_i z m h2
    injection hs with hs
    injection hs with e1 e2
    subst e1 e2
    simp only [RelC] at hr
    obtain ⟨c1, c2, rfl, g1, g2⟩ := hr
    obtain ⟨p1, p2, p3⟩ := send_ok h hI h1 g1 (fun k r' b base hk' => hd k r' b base (by simp [RU.drows, hk'])) (fun k hk' => hk k (by simp [hk']))
    obtain ⟨q1, q2, q3⟩ := send_ok h hI h2 g2 (fun k r' b base hk' => hd k r' b base (by simp [RU.drows, hk'])) (fun k hk' => hk k (by simp [hk']))
    refine ⟨⟨c1, c2, _, _, rfl, blocks_app s l m, p1, q1⟩, rfl, fun k hk' => ?_⟩
    rcases List.mem_append.1 hk' with hk' | hk'
    ·exact p3 k hk'
    ·exact q3 k hk'
   ·cases hs
  ·cases hs
 | .own u, .nilsl, y, ks, cs, hs, hr, hd, hk => by
  simp only [RU.send] at hs
  split at hs
  ·rename_i hz
   injection hs with hs
   injection hs with h1 h2
   subst h1 h2
   simp only [RelC] at hr
   subst hr
   exact ⟨⟨_, rfl, by simpa [Nat.blt_eq] using hz, none, ⟨none, 0, rfl, Nat.le_refl _, .inl rfl⟩, rfl, fun _ => rfl, fun b base hp => by cases hp⟩, rfl, by simp⟩
  ·cases hs
 | .omap u, .mp k, y, ks, cs, hs, hr, hd, hk => by
  simp only [RU.send] at hs
  split at hs
  ·cases hs
  ·rename_i hrow
   split at hs
   ·rename_i u' xs hvar
    split at hs
    ·rename_i x hc
     injection hs with hs
     injection hs with h1 h2
     subst h1 h2
     obtain ⟨e1, e2⟩ := castT_some hc
     injection e1 with e1
     injection e1 with _ e1
     injection e1 with e1 _
     subst e1
     have e2 : xs = x := by simpa using e2
     subst e2
     simp only [RelC] at hr
     obtain ⟨hU, w, rfl, _, hw⟩ := hr
     obtain ⟨_, rfl⟩ := hw _ (var_pv hvar rfl)
     obtain ⟨g1, g2, g3, o, g4, es, clock, rfl, g5⟩ := h.var k _ hvar
     have hb := blkOf_map hrow hvar
     refine ⟨⟨s.ρ.var k, es, clock, rfl, by simp [blocks, hb], g2, hk k (by simp) _ (by simp [hb]), g4, g5.mono hI (fun _ _ => rfl)⟩, rfl, fun q hq => ?_⟩
     simp at hq
     subst hq
     exact .inr ⟨hrow, _, _, hvar⟩
    ·cases hs
   ·cases hs
 | .ifc t fs, v, y, ks, cs, hs, hr, hd, hk => by
  obtain ⟨rfl, rfl⟩ := send_ifc hs
  exact ⟨⟨fun s' => pv_rel hr, rfl⟩, rfl, by simp⟩
 | .omap _, .d _ _, y, ks, cs, hs, hr, hd, hk => by simp [RU.send] at hs
 | .omap _, .cons _ _, y, ks, cs, hs, hr, hd, hk => by simp [RU.send] at hs
 | .omap _, .nil, y, ks, cs, hs, hr, hd, hk => by simp [RU.send] at hs
 | .omap _, .nilsl, y, ks, cs, hs, hr, hd, hk => by simp [RU.send] at hs
 | .omap _, .dfull _ _, y, ks, cs, hs, hr, hd, hk => by simp [RU.send] at hs
 | .omap _, .row _, y, ks, cs, hs, hr, hd, hk => by simp [RU.send] at hs
 | .omap _, .rsub _ _ _, y, ks, cs, hs, hr, hd, hk => by simp [RU.send] at hs
 | .omap _, .pvar _ _, y, ks, cs, hs, hr, hd, hk => by simp [RU.send] at hs
 | .omap _, .prow _ _ _, y, ks, cs, hs, hr, hd, hk => by simp [RU.send] at hs
 | .omap _, .pdeep _ _, y, ks, cs, hs, hr, hd, hk => by simp [RU.send] at hs
 | .omap _, .fn _ _ _, y, ks, cs, hs, hr, hd, hk => by simp [RU.send] at hs
 | .omap _, .tup _, y, ks, cs, hs, hr, hd, hk => by simp [RU.send] at hs
 | .omap _, .mapd _ _, y, ks, cs, hs, hr, hd, hk => by simp [RU.send] at hs
 | .omap _, .hrow _ _ _ _ _, y, ks, cs, hs, hr, hd, hk => by simp [RU.send] at hs
 | .omap _, .str _, y, ks, cs, hs, hr, hd, hk => by simp [RU.send] at hs
 | .omap _, .drow _ _ _ _ _, y, ks, cs, hs, hr, hd, hk => by simp [RU.send] at hs
 | .omap _, .dsl _ _ _ _, y, ks, cs, hs, hr, hd, hk => by simp [RU.send] at hs
 | .omap _, .dpi _ _ _ _ _, y, ks, cs, hs, hr, hd, hk => by simp [RU.send] at hs
 | .omap _, .undef, y, ks, cs, hs, hr, hd, hk => by simp [RU.send] at hs
 | .own _, .d _ _, y, ks, cs, hs, hr, hd, hk => by simp [RU.send] at hs
 | .own _, .cons _ _, y, ks, cs, hs, hr, hd, hk => by simp [RU.send] at hs
 | .own _, .nil, y, ks, cs, hs, hr, hd, hk => by simp [RU.send] at hs
 | .own _, .dfull _ _, y, ks, cs, hs, hr, hd, hk => by simp [RU.send] at hs
 | .own _, .rsub _ _ _, y, ks, cs, hs, hr, hd, hk => by simp [RU.send] at hs
 | .own _, .pvar _ _, y, ks, cs, hs, hr, hd, hk => by simp [RU.send] at hs
 | .own _, .prow _ _ _, y, ks, cs, hs, hr, hd, hk => by simp [RU.send] at hs
 | .own _, .pdeep _ _, y, ks, cs, hs, hr, hd, hk => by simp [RU.send] at hs
 | .own _, .fn _ _ _, y, ks, cs, hs, hr, hd, hk => by simp [RU.send] at hs
 | .own _, .tup _, y, ks, cs, hs, hr, hd, hk => by simp [RU.send] at hs
 | .own _, .mp _, y, ks, cs, hs, hr, hd, hk => by simp [RU.send] at hs
 | .own _, .mapd _ _, y, ks, cs, hs, hr, hd, hk => by simp [RU.send] at hs
 | .own _, .hrow _ _ _ _ _, y, ks, cs, hs, hr, hd, hk => by simp [RU.send] at hs
 | .own _, .str _, y, ks, cs, hs, hr, hd, hk => by simp [RU.send] at hs
 | .own _, .drow _ _ _ _ _, y, ks, cs, hs, hr, hd, hk => by simp [RU.send] at hs
 | .own _, .dsl _ _ _ _, y, ks, cs, hs, hr, hd, hk => by simp [RU.send] at hs
 | .own _, .dpi _ _ _ _ _, y, ks, cs, hs, hr, hd, hk => by simp [RU.send] at hs
 | .own _, .undef, y, ks, cs, hs, hr, hd, hk => by simp [RU.send] at hs
 | .nil, .d _ _, y, ks, cs, hs, hr, hd, hk => by simp [RU.send] at hs
 | .nil, .cons _ _, y, ks, cs, hs, hr, hd, hk => by simp [RU.send] at hs
 | .nil, .nilsl, y, ks, cs, hs, hr, hd, hk => by simp [RU.send] at hs
 | .nil, .dfull _ _, y, ks, cs, hs, hr, hd, hk => by simp [RU.send] at hs
 | .nil, .row _, y, ks, cs, hs, hr, hd, hk => by simp [RU.send] at hs
 | .nil, .rsub _ _ _, y, ks, cs, hs, hr, hd, hk => by simp [RU.send] at hs
 | .nil, .pvar _ _, y, ks, cs, hs, hr, hd, hk => by simp [RU.send] at hs
 | .nil, .prow _ _ _, y, ks, cs, hs, hr, hd, hk => by simp [RU.send] at hs
 | .nil, .pdeep _ _, y, ks, cs, hs, hr, hd, hk => by simp [RU.send] at hs
 | .nil, .fn _ _ _, y, ks, cs, hs, hr, hd, hk => by simp [RU.send] at hs
 | .nil, .tup _, y, ks, cs, hs, hr, hd, hk => by simp [RU.send] at hs
 | .nil, .mp _, y, ks, cs, hs, hr, hd, hk => by simp [RU.send] at hs
 | .nil, .mapd _ _, y, ks, cs, hs, hr, hd, hk => by simp [RU.send] at hs
 | .nil, .hrow _ _ _ _ _, y, ks, cs, hs, hr, hd, hk => by simp [RU.send] at hs
 | .nil, .str _, y, ks, cs, hs, hr, hd, hk => by simp [RU.send] at hs
 | .nil, .drow _ _ _ _ _, y, ks, cs, hs, hr, hd, hk => by simp [RU.send] at hs
 | .nil, .dsl _ _ _ _, y, ks, cs, hs, hr, hd, hk => by simp [RU.send] at hs
 | .nil, .dpi _ _ _ _ _, y, ks, cs, hs, hr, hd, hk => by simp [RU.send] at hs
 | .nil, .undef, y, ks, cs, hs, hr, hd, hk => by simp [RU.send] at hs
 | .cons _ _, .d _ _, y, ks, cs, hs, hr, hd, hk => by simp [RU.send] at hs
 | .cons _ _, .nil, y, ks, cs, hs, hr, hd, hk => by simp [RU.send] at hs
 | .cons _ _, .nilsl, y, ks, cs, hs, hr, hd, hk => by simp [RU.send] at hs
 | .cons _ _, .dfull _ _, y, ks, cs, hs, hr, hd, hk => by simp [RU.send] at hs
 | .cons _ _, .row _, y, ks, cs, hs, hr, hd, hk => by simp [RU.send] at hs
 | .cons _ _, .rsub _ _ _, y, ks, cs, hs, hr, hd, hk => by simp [RU.send] at hs
 | .cons _ _, .pvar _ _, y, ks, cs, hs, hr, hd, hk => by simp [RU.send] at hs
 | .cons _ _, .prow _ _ _, y, ks, cs, hs, hr, hd, hk => by simp [RU.send] at hs
 | .cons _ _, .pdeep _ _, y, ks, cs, hs, hr, hd, hk => by simp [RU.send] at hs
 | .cons _ _, .fn _ _ _, y, ks, cs, hs, hr, hd, hk => by simp [RU.send] at hs
 | .cons _ _, .tup _, y, ks, cs, hs, hr, hd, hk => by simp [RU.send] at hs
 | .cons _ _, .mp _, y, ks, cs, hs, hr, hd, hk => by simp [RU.send] at hs
 | .cons _ _, .mapd _ _, y, ks, cs, hs, hr, hd, hk => by simp [RU.send] at hs
 | .cons _ _, .hrow _ _ _ _ _, y, ks, cs, hs, hr, hd, hk => by simp [RU.send] at hs
 | .cons _ _, .str _, y, ks, cs, hs, hr, hd, hk => by simp [RU.send] at hs
 | .cons _ _, .drow _ _ _ _ _, y, ks, cs, hs, hr, hd, hk => by simp [RU.send] at hs
 | .cons _ _, .dsl _ _ _ _, y, ks, cs, hs, hr, hd, hk => by simp [RU.send] at hs
 | .cons _ _, .dpi _ _ _ _ _, y, ks, cs, hs, hr, hd, hk => by simp [RU.send] at hs
 | .cons _ _, .undef, y, ks, cs, hs, hr, hd, hk => by simp [RU.send] at hs
theorem send_w {H : HF} : ∀ {r : RU} {v : V} {y : r.T} {ks : List Nat}, r.send v H = some (y, ks) → ∀ k ∈ ks, OwnK H k := by
 intro r
 induction r with
 | d u =>
  intro v y ks hs
  simp only [RU.send] at hs
  split at hs
  ·injection hs with hs
   injection hs with h1 h2
   subst h2
   simp
  ·cases hs
 | own u =>
  intro v y ks hs
  cases v with
  | row k =>
   simp only [RU.send] at hs
   split at hs
   ·rename_i u' xs hrow
    split at hs
    ·injection hs with hs
     injection hs with h1 h2
     subst h2
     intro q hq
     simp at hq
     subst hq
     exact .inl ⟨_, hrow, rfl⟩
    ·cases hs
   ·cases hs
  | nilsl =>
   simp only [RU.send] at hs
   split at hs
   ·injection hs with hs
    injection hs with h1 h2
    subst h2
    simp
   ·cases hs
  | _ => simp [RU.send] at hs
 | no u =>
  intro v y ks hs
  simp only [RU.send] at hs
  split at hs
  ·injection hs with hs
   injection hs with h1 h2
   subst h2
   simp
  ·cases hs
 | ifc t fs =>
  intro v y ks hs
  obtain ⟨rfl, rfl⟩ := send_ifc hs
  simp
 | omap u =>
  intro v y ks hs
  cases v with
  | mp k =>
   simp only [RU.send] at hs
   split at hs
   ·cases hs
   ·rename_i hrow
    split at hs
    ·rename_i u' xs hvar
     split at hs
     ·injection hs with hs
      injection hs with h1 h2
      subst h2
      intro q hq
      simp at hq
      subst hq
      exact .inr ⟨hrow, _, _, hvar⟩
     ·cases hs
    ·cases hs
  | _ => simp [RU.send] at hs
 | nil =>
  intro v y ks hs
  cases v with
  | nil =>
   simp only [RU.send] at hs
   injection hs with hs
   injection hs with h1 h2
   subst h2
   simp
  | _ => simp [RU.send] at hs
 | cons a b iha ihb =>
  intro v y ks hs
  cases v with
  | cons va vb =>
   simp only [RU.send] at hs
   split at hs
   ·rename_i x l h1
    split at hs
    ·rename_i z m h2
     injection hs with hs
     injection hs with e1 e2
     subst e2
     intro k hk
     rcases List.mem_append.1 hk with hk | hk
     ·exact iha h1 k hk
     ·exact ihb h2 k hk
    ·cases hs
   ·cases hs
  | _ => simp [RU.send] at hs
theorem sends_ok {B : Nat} {s : S4} (h : MemOk B s) {J : Nat → Prop} (hI : ∀ b, s.I b → J b) : ∀ {r : RU} {v : V} {y : r.T} {ks : List Nat} {l : List Value}, r.lists = true → r.send v s.H = some (y, ks) → RelVL s v l →
  (∀ k r' b base, k ∈ r.drows v → s.H.row k = some r' → s.ρ.row k = some (b, base) → J b) → (∀ k, k ∈ ks → ∀ b ∈ blkOf s k, ¬ J b) →
  RelRs s.W J B r y l (blocks s ks) ∧ ∀ k ∈ ks, OwnK s.H k
 | .d u, _, _, _, _, hl, _, _, _, _ => by cases hl
 | .own u, _, _, _, _, hl, _, _, _, _ => by cases hl
 | .no u, _, _, _, _, hl, _, _, _, _ => by cases hl
 | .omap u, _, _, _, _, hl, _, _, _, _ => by cases hl
 | .ifc _ _, _, _, _, _, hl, _, _, _, _ => by cases hl
 | .nil, v, y, ks, l, hl, hs, hr, hd, hk => by
  cases v with
  | nil =>
   simp only [RU.send] at hs
   injection hs with hs
   injection hs with h1 h2
   subst h2
   exact ⟨⟨hr, rfl⟩, by simp⟩
  | _ => simp [RU.send] at hs
 | .cons a b, v, y, ks, l, hl, hs, hr, hd, hk => by
  cases v with
  | cons va vb =>
   simp only [RU.send] at hs
   split at hs
   ·rename_i x m1 h1
    split at hs
    ·rename_i z m2 h2
     injection hs with hs
     injection hs with e1 e2
     subst e1 e2
     obtain ⟨w, r, rfl, g1, g2⟩ := hr
     have hn1 : va ≠ .undef ∧ ∀ w, va ≠ .tup w := by
      constructor
      ·rintro rfl
       cases a with
       | d u =>
        simp only [RU.send] at h1
        split at h1
        ·rename_i x' hx
         exact (deepen_not hx).1 rfl
        ·cases h1
       | _ => simp [RU.send, V.cell] at h1
      ·rintro w rfl
       cases a with
       | d u =>
        simp only [RU.send] at h1
        split at h1
        ·rename_i x' hx
         exact (deepen_not hx).2 w rfl
        ·cases h1
       | _ => simp [RU.send, V.cell] at h1
     have hnY : va.isY = false := by
      cases hY : va.isY with
      | false => rfl
      | true =>
       exfalso
       obtain ⟨f, b1, b2, rfl⟩ : ∃ f b1 b2, va = .fn f b1 (.tup b2) := by
        unfold V.isY at hY
        split at hY
        ·exact ⟨_, _, _, rfl⟩
        ·cases hY
       cases a with
       | d u =>
        simp only [RU.send] at h1
        split at h1
        ·rename_i x' hx
         have := deepen_noY hx
         cases this
        ·cases h1
       | _ => simp [RU.send, V.cell] at h1
     obtain ⟨cs, c1, c2⟩ := g1.toV.get hn1.1 hn1.2 hnY
     obtain ⟨p1, p2, p3⟩ := send_ok h hI h1 c1 (fun k r' b base hk' => hd k r' b base (by simp [RU.drows, hk'])) (fun k hk' => hk k (by simp [hk']))
     obtain ⟨q1, q3⟩ := sends_ok h hI (by simpa [RU.lists] using hl) h2 g2 (fun k r' b base hk' => hd k r' b base (by simp [RU.drows, hk'])) (fun k hk' => hk k (by simp [hk']))
     refine ⟨⟨w, r, cs, _, _, rfl, blocks_app s m1 m2, p1, by rw [← p2]; exact c2, q1⟩, fun k hk' => ?_⟩
     rcases List.mem_append.1 hk' with hk' | hk'
     ·exact p3 k hk'
     ·exact q3 k hk'
    ·cases hs
   ·cases hs
  | _ => simp [RU.send] at hs
theorem blkOf_nodup (s : S4) (k : Nat) : (blkOf s k).Nodup := by
 unfold blkOf
 split
 ·cases s.ρ.row k <;> simp
 ·split <;> simp
theorem blocks_nodup {B : Nat} {s : S4} (h : MemOk B s) : ∀ {ks : List Nat}, ks.Nodup → (∀ k ∈ ks, OwnK s.H k) → (blocks s ks).Nodup
 | [], _, _ => by simp [blocks]
 | k :: ks, hn, hw => by
  obtain ⟨h1, h2⟩ := List.nodup_cons.1 hn
  have ih := blocks_nodup h h2 (fun q hq => hw q (by simp [hq]))
  have e : blocks s (k :: ks) = blkOf s k ++ blocks s ks := rfl
  rw [e]
  refine List.nodup_append.2 ⟨blkOf_nodup s k, ih, fun b hb c hc e => ?_⟩
  subst e
  obtain ⟨q, hq, hqb⟩ := List.mem_flatMap.1 hc
  have hkq : k ≠ q := fun e => h1 (e ▸ hq)
  have w1 := hw k (by simp)
  have w2 := hw q (by simp [hq])
  rcases blkOf_mem hb with ⟨r1, b0, a1, a2⟩ | ⟨a0, ⟨u, xs, a1⟩, a2⟩ <;> rcases blkOf_mem hqb with ⟨r2, b1, c1, c2⟩ | ⟨c0, ⟨v, ys, c1⟩, c2⟩
  ·exact h.rr k q r1 r2 b b0 b1 hkq a1 c1 (w1.w a1) (w2.w c1) a2 c2
  ·exact h.vr q k _ r1 b b0 c1 a1 (w1.w a1) a2 c2.symm
  ·exact h.vr k q _ r2 b b1 a1 c1 (w2.w c1) c2 a2.symm
  ·exact h.vv k q _ _ hkq a1 c1 (a2.symm.trans c2)
theorem sent_ok {W : World} {I : Nat → Prop} (hI : ∀ b, I b → b < W.heap.size) {t : S4} {r : RU} {v : V} {lv : List Value} {y : r.T} (hmt : MemOk W.heap.size t) (hxt : Ext W.heap.size { W := W, I := I, H := H0, ρ := { var := fun _ => 0, row := fun _ => none }, U := fun _ => False, cur := W.heap.size } t) (hrel : RelVL t v lv) (hl : r.lists = true) (hsend : sendK r v t.H = some y) :
  ∃ l bs I', Ending.returned (outValue lv) = .returned (outValue l) ∧ Below W.heap.size W t.W ∧ (∀ b, I' b → (I b ∨ W.heap.size ≤ b) ∧ b < t.W.heap.size) ∧ RelRs t.W I' W.heap.size r y l bs ∧ bs.Nodup := by
 unfold sendK at hsend
 split at hsend
 ·rename_i y ks hs
  split at hsend
  ·rename_i hq
   injection hsend with hsend
   subst hsend
   simp only [Bool.and_eq_true, List.all_eq_true] at hq
   have hnd := of_decide_eq_true hq.1
   have hdis : ∀ k ∈ r.drows v, k ∉ ks := fun k hk hk' => by
    have := hq.2 k hk
    simp [hk'] at this
   let J : Nat → Prop := fun b => t.I b ∨ ∃ k r' base, k ∈ r.drows v ∧ t.H.row k = some r' ∧ t.ρ.row k = some (b, base)
   have hw := send_w hs
   have hnI : ∀ k, k ∈ ks → ∀ b ∈ blkOf t k, ¬ t.I b := by
    intro k hk b hbk hb
    rcases blkOf_mem hbk with ⟨r1, base, a1, hp⟩ | ⟨_, ⟨u, xs, a1⟩, rfl⟩
    ·obtain ⟨_, _, h3⟩ := hmt.row k r1 a1
     rcases h3 with h3 | ⟨b', base', cur, ty, e, _, g1, _⟩
     ·rw [h3.2] at hp; cases hp
     ·rw [hp] at e
      injection e with e
      injection e with e _
      subst e
      exact (g1 ((hw k hk).w a1)).2 hb
    ·exact (hmt.var k _ a1).2.2.1 hb
   have hrow : ∀ k r' b base, t.H.row k = some r' → t.ρ.row k = some (b, base) → (r'.w = true ∧ W.heap.size ≤ b) ∨ (r'.w = false ∧ t.I b) := by
    intro k r' b base h1 hp
    obtain ⟨_, _, h3⟩ := hmt.row k r' h1
    rcases h3 with h3 | ⟨b', base', cur, ty, e, _, g1, g2, _⟩
    ·rw [h3.2] at hp; cases hp
    ·rw [hp] at e
     injection e with e
     injection e with e _
     subst e
     cases hrw : r'.w with
     | true => exact .inl ⟨rfl, (g1 hrw).1⟩
     | false => exact .inr ⟨rfl, g2 hrw⟩
   have hnJ : ∀ k, k ∈ ks → ∀ b ∈ blkOf t k, ¬ J b := by
    rintro k hk b hbk (hb | ⟨q, r', base', h1, h2, h3⟩)
    ·exact hnI k hk b hbk hb
    ·rcases hrow q r' b base' h2 h3 with ⟨g, _⟩ | ⟨_, g⟩
     ·rcases blkOf_mem hbk with ⟨r1, base, a1, hp⟩ | ⟨_, ⟨u, xs, a1⟩, rfl⟩
      ·exact hmt.rr k q r1 r' b base base' (fun e => hdis q h1 (e ▸ hk)) a1 h2 ((hw k hk).w a1) g hp h3
      ·exact hmt.vr k q _ r' _ base' a1 h2 g h3 rfl
     ·exact hnI k hk b hbk g
   obtain ⟨p1, p2⟩ := sends_ok hmt (J := J) (fun b hb => .inl hb) hl hs hrel (fun k r' b base h1 h2 h3 => .inr ⟨k, r', base, h1, h2, h3⟩) hnJ
   refine ⟨lv, _, J, rfl, hxt.below, fun b hb => ?_, p1, blocks_nodup hmt hnd hw⟩
   rcases hb with hb | ⟨k, r', base, h1, h2, h3⟩
   ·exact ⟨hxt.inew b hb, hmt.ilt b hb⟩
   ·refine ⟨?_, hmt.rowlt h2 h3⟩
    rcases hrow k r' b base h2 h3 with ⟨_, g⟩ | ⟨_, g⟩
    ·exact .inr g
    ·exact hxt.inew b g
  ·cases hsend
 ·cases hsend
theorem semOf {P : Program} {E : TE} (hE : TEok P E) {S : FuncId → Option Sum} (hS : ∀ f sm, S f = some sm → SemOf P f sm) {fns : FuncId → Option Func} (hF : FnsOk P fns) {ann : Nat → FuncId → Nat → Nat → Option LoopSum} {depth : Nat} (hA : AnnOk E S fns ann depth) {f : FuncId} {fn : Func} (hf : P.funcs[f]? = some fn) (hname : (fn.name == "runtime.NumGoroutine") = false)
  (hbody : fn.body.isNone = false) (hL : LoopsOk E S (fun β => inlD E S fns ann depth (β := β)) (ann depth f) f fn) (hG0 : RngOk f fn) {sm : Sum} (hl : sm.r.lists = true) (h : ∀ x r, sm.F x = some r → denFun E S fns ann depth f fn sm.a sm.r x = some r) : SemOf P f sm where
 enters := ⟨fn, hf, hname, hbody⟩
 calls := fun W I hI hG x args r hargs hF' => by
  have hden := h x r hF'
  let s : S4 := { W := W, I := I, H := H0, ρ := { var := fun _ => 0, row := fun _ => none }, U := fun _ => False, cur := W.heap.size }
  have hm : MemOk W.heap.size s := ⟨hI, Nat.le_refl _, (fun k hk => hk.elim), (fun k c hc => by cases hc), (fun k r hr => by cases hr), (fun k l c c' _ hc => by cases hc), (fun k l r r' b b0 b1 _ hr => by cases hr), (fun k l c r b b0 hc => by cases hc), (fun k c hc => by cases hc), ⟨(fun k v r xs q ho hk => by cases hk), fun k i l j b ⟨_, _, _, _, _, hb, _⟩ => by cases hb⟩⟩
  obtain ⟨_, hc⟩ := runFun_ok (inlP := fun β => inlD E S fns ann depth (β := β)) (s := s) (fun β => ⟨hE, hS, inl_ok hE hS hF hA depth (Nat.le_refl _) β⟩) hf hname hL hG0 hden hm hG (Nat.le_refl _) (argV_rel (s := s) hargs)
  refine hc.mono ?_
  rintro e W' ⟨t, y, rfl, rfl, hmt, hxt, _, v, lv, hrel, rfl, hsend⟩
  exact sent_ok hI hmt hxt hrel hl hsend
end Go.Proofs.YtdokfjkihjkcmaaGreatDoor.Den

/- The types' table, by closed checks: 'teOk_of'. -/
namespace Go.Proofs.YtdokfjkihjkcmaaGreatDoor.Den
open Go Go.RowKit
set_option linter.unusedVariables false
set_option linter.unusedSectionVars false
def look1 {α : Type} : List (Nat × α) → Nat → Option α
 | [], _ => none
 | (k, v) :: r, i => bif Nat.beq k i then some v else look1 r i
def look2 : List (Nat × Nat × Nat) → Nat → Nat → Option Nat
 | [], _, _ => none
 | (k, f, v) :: r, i, j => bif Nat.beq k i && Nat.beq f j then some v else look2 r i j
theorem look1_mem {α : Type} : ∀ {l : List (Nat × α)} {i : Nat} {v : α}, look1 l i = some v → (i, v) ∈ l
 | [], i, v, h => by cases h
 | (k, w) :: l, i, v, h => by
  simp only [look1] at h
  cases e : Nat.beq k i with
  | true =>
   rw [e] at h
   have := nat_beq e
   subst this
   injection h with h
   subst h
   simp
  | false =>
   rw [e] at h
   exact List.mem_cons_of_mem _ (look1_mem h)
theorem look2_mem : ∀ {l : List (Nat × Nat × Nat)} {i j v : Nat}, look2 l i j = some v → (i, j, v) ∈ l
 | [], i, j, v, h => by cases h
 | (k, f, w) :: l, i, j, v, h => by
  simp only [look2] at h
  cases e : Nat.beq k i && Nat.beq f j with
  | true =>
   rw [e] at h
   simp only [Bool.and_eq_true] at e
   have h1 := nat_beq e.1
   have h2 := nat_beq e.2
   subst h1 h2
   injection h with h
   subst h
   simp
  | false =>
   rw [e] at h
   exact List.mem_cons_of_mem _ (look2_mem h)
def look3 {α : Type} : List (Nat × Nat × α) → Nat → Nat → Option α
 | [], _, _ => none
 | (k, f, v) :: r, i, j => bif Nat.beq k i && Nat.beq f j then some v else look3 r i j
theorem look3_mem {α : Type} : ∀ {l : List (Nat × Nat × α)} {i j : Nat} {v : α}, look3 l i j = some v → (i, j, v) ∈ l
 | [], i, j, v, h => by cases h
 | (k, f, w) :: l, i, j, v, h => by
  simp only [look3] at h
  cases e : Nat.beq k i && Nat.beq f j with
  | true =>
   rw [e] at h
   simp only [Bool.and_eq_true] at e
   have h1 := nat_beq e.1
   have h2 := nat_beq e.2
   subst h1 h2
   injection h with h
   subst h
   simp
  | false =>
   rw [e] at h
   exact List.mem_cons_of_mem _ (look3_mem h)
def lookM : List (Nat × String × Nat × Option Nat) → Nat → String → Option (Nat × Option Nat)
 | [], _, _ => none
 | (k, n, v) :: r, i, m => bif Nat.beq k i && decide (n = m) then some v else lookM r i m
theorem lookM_mem : ∀ {l : List (Nat × String × Nat × Option Nat)} {i : Nat} {m : String} {v : Nat × Option Nat}, lookM l i m = some v → (i, m, v) ∈ l
 | [], i, m, v, h => by cases h
 | (k, n, w) :: l, i, m, v, h => by
  simp only [lookM] at h
  cases e : Nat.beq k i && decide (n = m) with
  | true =>
   rw [e] at h
   simp only [Bool.and_eq_true] at e
   have h1 := nat_beq e.1
   have h2 := of_decide_eq_true e.2
   subst h1 h2
   injection h with h
   subst h
   simp
  | false =>
   rw [e] at h
   exact List.mem_cons_of_mem _ (lookM_mem h)
structure TL where
 tyL : List (Nat × U)
 elL : List (Nat × U)
 arL : List (Nat × Nat × U)
 ebL : List (Nat × Nat)
 szL : List (Nat × Nat × Bool)
 foL : List (Nat × Nat × Nat)
 fpL : List (Nat × Nat × Nat × Nat × Bool)
 stL : List Nat
 btL : List Nat
 coL : List Nat
 bzL : List (Nat × List BF)
 meL : List (Nat × String × Nat × Option Nat)
 mpL : List (Nat × U)
def TL.te (l : TL) : TE := { mp := look1 l.mpL, conc := fun t => l.coL.any (fun k => Nat.beq k t), meth := lookM l.meL, bz := look1 l.bzL, ty := look1 l.tyL, elem := look1 l.elL, aelem := look1 l.arL, ebytes := fun t => (look1 l.ebL t).getD 0, sz := look1 l.szL, foff := look2 l.foL, fpart := look3 l.fpL, str := fun t => l.stL.contains t, byt := fun t => l.btL.contains t }
def fldL : U → Nat → List (Nat × Nat)
 | .cons a b, o => (o, a.size) :: fldL b (o + a.size)
 | _, _ => []
theorem off_fldL : ∀ {u : U} {f o p : Nat}, u.off [.fld f] = some o → ∃ v, dcode u [.fld f] = some v ∧ (fldL u p)[f]? = some (p + o, v.size)
 | .cons a b, 0, o, p, h => by
  have h : a.off [] = some o := h
  have : o = 0 := by cases a <;> simpa [U.off] using h.symm
  subst this
  refine ⟨a, by cases a <;> rfl, rfl⟩
 | .cons a b, f + 1, o, p, h => by
  simp only [U.off] at h
  split at h
  ·rename_i o' h'
   injection h with h
   subst h
   obtain ⟨v, h1, h2⟩ := off_fldL (p := p + a.size) h'
   exact ⟨v, h1, by simp only [fldL, List.getElem?_cons_succ, h2]; congr 2; omega⟩
  ·cases h
 | .int _, _, _, _, h => by simp [U.off] at h
 | .bool, _, _, _, h => by simp [U.off] at h
 | .fn, _, _, _, h => by simp [U.off] at h
 | .sl _, _, _, _, h => by simp [U.off] at h
 | .nil, _, _, _, h => by simp [U.off] at h
 | .arr _ _, f, _, _, h => by cases f <;> simp [U.off] at h
section
variable (P : Program)
def zeroOf (t : Nat) : Option (List Value) := ((P.info? t).bind (·.zero)).map (·.cells.toList)
def aggOf (t : Nat) : Option Bool := (P.underlying t).map aggDesc
def sizeOf? (t : Nat) : Option Nat := (P.info? t).map (·.size)
def bytesOf? (t : Nat) : Option Nat := (P.info? t).map (·.bytes)
def sliceOf (t : Nat) : Option Nat := match P.underlying t with
 | some (.slice e) => some e
 | _ => none
def arrOf (t : Nat) : Option (Nat × Nat) := match P.underlying t with
 | some (.array n e) => some (n, e)
 | _ => none
def structOf (t : Nat) : Option (Array Field) := match P.underlying t with
 | some (.struct fs) => some fs
 | _ => none
def isInt (k : IntKind) (t : Nat) : Bool := match P.underlying t with
 | some (.int k') => decide (k = k')
 | _ => false
def isBool (t : Nat) : Bool := match P.underlying t with
 | some .bool => true
 | _ => false
def isStr (t : Nat) : Bool := match P.underlying t with
 | some .string => true
 | _ => false
def isByt (t : Nat) : Bool := match sliceOf P t with
 | some e => isInt P .u8 e
 | none => false
def placesOf (fs : Array Field) : Option (List (Nat × Nat)) := fs.toList.mapM (fun f => (P.info? f.type).map fun i => (f.offset, i.size))
def tyChk (p : Nat × U) : Bool := match p.2 with
 | .int k => isInt P k p.1
 | .bool => isBool P p.1
 | .cons a b => match structOf P p.1 with
  | some fs => match placesOf P fs with
   | some l => decide (l = fldL (.cons a b) 0)
   | none => false
  | none => false
 | .nil => match structOf P p.1 with
  | some fs => (placesOf P fs).isSome
  | none => false
 | _ => true
def szChk (p : Nat × Nat × Bool) : Bool := decide (aggOf P p.1 = some p.2.2) && decide (sizeOf? P p.1 = some p.2.1) && (p.2.2 || Nat.beq p.2.1 1)
def elChk (l : TL) (p : Nat × U) : Bool := match sliceOf P p.1 with
 | some e => decide (aggOf P e = some p.2.agg) && decide (sizeOf? P e = some p.2.size) && decide (bytesOf? P e = some ((look1 l.ebL p.1).getD 0))
 | none => false
def arChk (p : Nat × Nat × U) : Bool := match arrOf P p.1 with
 | some (n, e) => Nat.beq n p.2.1 && decide (aggOf P e = some p.2.2.agg) && decide (sizeOf? P e = some p.2.2.size)
 | none => false
def foChk (p : Nat × Nat × Nat) : Bool := match structOf P p.1 with
 | some fs => match fs[p.2.1]? with
  | some fd => Nat.beq fd.offset p.2.2 && (match sizeOf? P fd.type with
   | some n => !(Nat.beq n 0)
   | none => false)
  | none => false
 | none => false
def fpChk (p : Nat × Nat × Nat × Nat × Bool) : Bool := match structOf P p.1 with
 | some fs => match fs[p.2.1]? with
  | some fd => Nat.beq fd.offset p.2.2.1 && decide (sizeOf? P fd.type = some p.2.2.2.1) && decide (aggOf P fd.type = some p.2.2.2.2) && (p.2.2.2.2 || Nat.beq p.2.2.2.1 1)
  | none => false
 | none => false
def eqF (eqT : U → Nat → Bool) : U → List Field → Nat → Bool
 | .cons a b, f :: fs, o => decide (f.name ≠ "_") && Nat.beq f.offset o && decide (aggOf P f.type = some a.agg) && decide (sizeOf? P f.type = some a.size) && eqT a f.type && eqF eqT b fs (o + a.size)
 | .nil, [], _ => true
 | _, _, _ => false
def eqT : Nat → U → Nat → Bool
 | 0, _, _ => false
 | _ + 1, .int k, t => isInt P k t
 | _ + 1, .bool, t => isBool P t
 | _ + 1, .sl _, _ => false
 | _ + 1, .fn, _ => false
 | d + 1, .arr n u, t => match arrOf P t with
  | some (m, e) => Nat.beq n m && decide (aggOf P e = some u.agg) && decide (sizeOf? P e = some u.size) && eqT d u e
  | none => false
 | d + 1, .nil, t => match structOf P t with
  | some fs => !P.stoodInHeld t && eqF P (eqT d) .nil fs.toList 0
  | none => false
 | d + 1, .cons a b, t => match structOf P t with
  | some fs => !P.stoodInHeld t && eqF P (eqT d) (.cons a b) fs.toList 0
  | none => false
def eqChk (p : Nat × U) : Bool := !(p.2.eqok && p.2.agg) || (!P.eqGuardType P.depth p.1 && eqT P 20 p.2 p.1)
def coChk (t : Nat) : Bool := match P.underlying t with
 | some d => !isIfc d
 | none => false
def meChk (p : Nat × String × Nat × Option Nat) : Bool := match P.info? p.1 with
 | some i => match i.methods.find? (fun m => m.name == p.2.1) with
  | some m => m.path.isEmpty && (match m.func with
   | some (f, q) => Nat.beq f p.2.2.1 && (match P.underlying p.1 with
    | some d => (match p.2.2.2 with
     | none => isPtr d == q
     | some e => decide (ptrOf d = some e) && !q)
    | none => false)
   | none => false)
  | none => false
 | none => false
where ptrOf : TypeDesc → Option Nat
 | .pointer e => some e
 | _ => none
def mpChk (l : TL) (p : Nat × U) : Bool := p.2.mel && match P.underlying p.1 with
 | some (.map k e) => isInt P .i64 k && decide (look1 l.tyL e = some p.2) && (match (P.info? e).bind (·.zero) with
  | some (.agg _) => false
  | some _ => true
  | none => false)
 | _ => false
def bzChk (p : Nat × List BF) : Bool := match structOf P p.1 with
 | some fs => match placesOf P fs with
  | some l => decide (l = fldL (bzU p.2) 0)
  | none => false
 | none => false
def teChk (l : TL) : Bool := l.mpL.all (mpChk P l) && l.bzL.all (bzChk P) && l.coL.all (coChk P) && l.meL.all (meChk P) && P.follows .mixedOrders && l.tyL.all (tyChk P) && l.szL.all (szChk P) && l.elL.all (elChk P l) && l.arL.all (arChk P) && l.foL.all (foChk P) && l.fpL.all (fpChk P) && l.stL.all (isStr P) && l.btL.all (isByt P) && l.tyL.all (eqChk P)
variable {P}
theorem isInt_ok {k : IntKind} {t : Nat} (h : isInt P k t = true) : P.underlying t = some (.int k) := by
 unfold isInt at h
 split at h
 ·rename_i k' hk
  have : k = k' := of_decide_eq_true h
  rw [hk, this]
 ·cases h
theorem isBool_ok {t : Nat} (h : isBool P t = true) : P.underlying t = some .bool := by
 unfold isBool at h
 split at h
 ·assumption
 ·cases h
theorem isStr_ok {t : Nat} (h : isStr P t = true) : P.underlying t = some .string := by
 unfold isStr at h
 split at h
 ·assumption
 ·cases h
theorem sliceOf_ok {t e : Nat} (h : sliceOf P t = some e) : P.underlying t = some (.slice e) := by
 unfold sliceOf at h
 split at h
 ·rename_i e' he
  injection h with h
  rw [he, h]
 ·cases h
theorem arrOf_ok {t n e : Nat} (h : arrOf P t = some (n, e)) : P.underlying t = some (.array n e) := by
 unfold arrOf at h
 split at h
 ·rename_i n' e' he
  injection h with h
  injection h with h1 h2
  rw [he, h1, h2]
 ·cases h
theorem structOf_ok {t : Nat} {fs : Array Field} (h : structOf P t = some fs) : P.underlying t = some (.struct fs) := by
 unfold structOf at h
 split at h
 ·rename_i e' he
  injection h with h
  rw [he, h]
 ·cases h
theorem aggOf_ok {t : Nat} {g : Bool} (h : aggOf P t = some g) : ∃ d, P.underlying t = some d ∧ aggDesc d = g := by
 unfold aggOf at h
 exact Option.map_eq_some_iff.1 h
theorem sizeOf_ok {t n : Nat} (h : sizeOf? P t = some n) : ∃ i, P.info? t = some i ∧ i.size = n := by
 unfold sizeOf? at h
 exact Option.map_eq_some_iff.1 h
theorem run_part' {e : TypeId} {u : U} (hd : ∃ d, P.underlying e = some d ∧ aggDesc d = u.agg) (hi : ∃ i, P.info? e = some i ∧ i.size = u.size) (W : World) (cs : Array Value) (o : Nat) (vs : List Value) (hl : vs.length = u.size) (hv : (cs.toList.drop o).take u.size = vs) :
  ∃ y, (part e cs o).run P W = .ok y W ∧ IsVal u.agg vs y := by
 obtain ⟨d, hd, hg⟩ := hd
 obtain ⟨i, hi, hsz⟩ := hi
 have hagg : (isAgg e).run P W = .ok u.agg W := by
  unfold isAgg underlying
  simp only [Sem.run_bind, run_program, Result.andThen_ok, hd, Sem.run_pure]
  rw [← hg]
  cases d <;> rfl
 have hs : (sizeOf e).run P W = .ok u.size W := by simp [sizeOf, typeInfo, hi, hsz]
 unfold part
 simp only [Sem.run_bind, hagg, Result.andThen_ok]
 cases hu : u.agg with
 | true =>
  refine ⟨.agg (cs.extract o (o + u.size)), ?_, ?_⟩
  ·simp [hs]
  ·simp only [IsVal]
   congr 1
   apply Array.ext'
   rw [Array.toList_extract, ← hv]
   simp [List.extract_eq_take_drop]
 | false =>
  have h1 : u.size = 1 := by
   cases u <;> simp [U.agg] at hu <;> rfl
  rw [h1] at hl hv
  obtain ⟨v, rfl⟩ : ∃ v, vs = [v] := by
   match vs, hl with
   | [v], _ => exact ⟨v, rfl⟩
  have : cs[o]? = some v := by
   have := congrArg (fun l => l[0]?) hv
   simpa using this
  exact ⟨v, by simp [this], rfl⟩
section
variable {W : World} {I I' : Nat → Prop}
def EqOk (P : Program) (W : World) (I I' : Nat → Prop) (d : Nat) (u : U) (t : Nat) : Prop := ∀ (x y : u.T) (xs ys : List Value) (X Y : Value), RelD W I u x xs → RelD W I' u y ys → IsVal u.agg xs X → IsVal u.agg ys Y → (Op.equalIn d t X Y).run P W = .ok (u.eq x y) W
theorem eqF_ok {e : U → Nat → Bool} {d : Nat} (ih : ∀ u t, e u t = true → EqOk P W I I' d u t) : ∀ {u : U} {fs : List Field} {o : Nat}, eqF P e u fs o = true → ∀ (x y : u.T) (XS YS : Array Value) (xs ys : List Value), RelD W I u x xs → RelD W I' u y ys → XS.toList.drop o = xs → YS.toList.drop o = ys →
  (Op.eqFields d XS YS fs).run P W = .ok (u.eq x y) W
 | .cons a b, f :: fs, o, h, x, y, XS, YS, xs, ys, hx, hy, ex, ey => by
  simp only [eqF, Bool.and_eq_true, decide_eq_true_eq] at h
  obtain ⟨⟨⟨⟨⟨h1, h2⟩, h3⟩, h4⟩, h5⟩, h6⟩ := h
  have h2 := nat_beq h2
  obtain ⟨c1, c2, rfl, x1, x2⟩ := hx
  obtain ⟨d1, d2, rfl, y1, y2⟩ := hy
  obtain ⟨p, p1, p2⟩ := run_part' (P := P) (aggOf_ok h3) (sizeOf_ok h4) W XS o c1 x1.len (by rw [ex, ← x1.len]; simp)
  obtain ⟨q, q1, q2⟩ := run_part' (P := P) (aggOf_ok h3) (sizeOf_ok h4) W YS o d1 y1.len (by rw [ey, ← y1.len]; simp)
  have hr := ih a f.type h5 x.1 y.1 c1 d1 p q x1 y1 p2 q2
  have hn : XS.toList.drop (o + a.size) = c2 := by rw [← List.drop_drop, ex, ← x1.len, List.drop_left]
  have hm : YS.toList.drop (o + a.size) = d2 := by rw [← List.drop_drop, ey, ← y1.len, List.drop_left]
  have hrec := eqF_ok ih h6 x.2 y.2 XS YS c2 d2 x2 y2 hn hm
  simp only [Op.eqFields, h1, ne_eq, not_false_eq_true, if_true, Sem.run_bind, h2, p1, q1, hr, Result.andThen_ok, U.eq]
  cases a.eq x.1 y.1 with
  | true => simpa using hrec
  | false => simp
 | .nil, [], o, h, x, y, XS, YS, xs, ys, hx, hy, ex, ey => by simp [Op.eqFields, U.eq]
 | .nil, _ :: _, _, h, _, _, _, _, _, _, _, _, _, _ => by simp [eqF] at h
 | .cons _ _, [], _, h, _, _, _, _, _, _, _, _, _, _ => by simp [eqF] at h
 | .int _, _, _, h, _, _, _, _, _, _, _, _, _, _ => by simp [eqF] at h
 | .bool, _, _, h, _, _, _, _, _, _, _, _, _, _ => by simp [eqF] at h
 | .fn, _, _, h, _, _, _, _, _, _, _, _, _, _ => by simp [eqF] at h
 | .sl _, _, _, h, _, _, _, _, _, _, _, _, _, _ => by simp [eqF] at h
 | .arr _ _, _, _, h, _, _, _, _, _, _, _, _, _, _ => by simp [eqF] at h
theorem eqItems_ok {d e n : Nat} {u : U} (he : EqOk P W I I' d u e) (ha : ∃ d, P.underlying e = some d ∧ aggDesc d = u.agg) (hs : ∃ i, P.info? e = some i ∧ i.size = u.size) {xs ys : List u.T} {XS YS : Array Value} (hx : RelD W I (.arr n u) xs XS.toList) (hy : RelD W I' (.arr n u) ys YS.toList) :
  ∀ (k j : Nat), j + k = n → (Op.eqItems d e u.size XS YS (List.range' j k)).run P W = .ok (((xs.drop j).zip (ys.drop j)).all fun p => u.eq p.1 p.2) W
 | 0, j, hj => by
  have : xs.drop j = [] := List.drop_eq_nil_of_le (by rw [hx.1]; omega)
  simp [Op.eqItems, this]
 | k + 1, j, hj => by
  have hjx : j < xs.length := by rw [hx.1]; omega
  have hjy : j < ys.length := by rw [hy.1]; omega
  have rx := hx.2.2 j _ (List.getElem?_eq_getElem hjx)
  have ry := hy.2.2 j _ (List.getElem?_eq_getElem hjy)
  obtain ⟨p, p1, p2⟩ := run_part' (P := P) ha hs W XS (j * u.size) _ rx.len rfl
  obtain ⟨q, q1, q2⟩ := run_part' (P := P) ha hs W YS (j * u.size) _ ry.len rfl
  have hr := he _ _ _ _ p q rx ry p2 q2
  have hrec := eqItems_ok he ha hs hx hy k (j + 1) (by omega)
  rw [List.range'_succ]
  simp only [Op.eqItems, Sem.run_bind, p1, q1, hr, Result.andThen_ok]
  rw [List.drop_eq_getElem_cons hjx, List.drop_eq_getElem_cons hjy, List.zip_cons_cons, List.all_cons]
  cases u.eq xs[j] ys[j] with
  | true => simpa using hrec
  | false => simp
theorem eqT_ok : ∀ (m : Nat) (u : U) (t : Nat), eqT P m u t = true → ∀ k, EqOk P W I I' (k + m) u t
 | 0, _, _, h, _ => by simp [eqT] at h
 | m + 1, .int k, t, h, d => by
  intro x y xs ys X Y hx hy vx vy
  simp only [eqT] at h
  simp only [RelD] at hx hy
  subst hx hy
  have ex := isVal_one vx rfl
  have ey := isVal_one vy rfl
  subst ex ey
  exact run_equalIn_int W (d + m) t k k x y (isInt_ok h)
 | m + 1, .bool, t, h, d => by
  intro x y xs ys X Y hx hy vx vy
  simp only [eqT] at h
  simp only [RelD] at hx hy
  subst hx hy
  have ex := isVal_one vx rfl
  have ey := isVal_one vy rfl
  subst ex ey
  exact run_equalIn_bool' W (d + m) t x y (isBool_ok h)
 | m + 1, .sl _, t, h, d => by simp [eqT] at h
 | m + 1, .fn, t, h, d => by simp [eqT] at h
 | m + 1, .nil, t, h, d => by
  intro x y xs ys X Y hx hy vx vy
  simp only [eqT] at h
  split at h
  ·rename_i fs hfs
   simp only [Bool.and_eq_true, Bool.not_eq_true'] at h
   have hu := structOf_ok hfs
   have vx : X = .agg xs.toArray := vx
   have vy : Y = .agg ys.toArray := vy
   subst vx vy
   have hf : P.fieldsOf t = fs := by simp [Program.fieldsOf, hu]
   show (Op.equalIn ((d + m) + 1) t _ _).run P W = _
   rw [run_equalIn_struct W (d + m) t _ _ (by rw [hf]; exact hu) h.1, hf]
   exact eqF_ok (fun u t ht => eqT_ok m u t ht d) h.2 x y _ _ xs ys hx hy (by simp) (by simp)
  ·cases h
 | m + 1, .cons a b, t, h, d => by
  intro x y xs ys X Y hx hy vx vy
  simp only [eqT] at h
  split at h
  ·rename_i fs hfs
   simp only [Bool.and_eq_true, Bool.not_eq_true'] at h
   have hu := structOf_ok hfs
   have vx : X = .agg xs.toArray := vx
   have vy : Y = .agg ys.toArray := vy
   subst vx vy
   have hf : P.fieldsOf t = fs := by simp [Program.fieldsOf, hu]
   show (Op.equalIn ((d + m) + 1) t _ _).run P W = _
   rw [run_equalIn_struct W (d + m) t _ _ (by rw [hf]; exact hu) h.1, hf]
   exact eqF_ok (fun u t ht => eqT_ok m u t ht d) h.2 x y _ _ xs ys hx hy (by simp) (by simp)
  ·cases h
 | m + 1, .arr n u, t, h, d => by
  intro x y xs ys X Y hx hy vx vy
  simp only [eqT] at h
  split at h
  ·rename_i n' e harr
   simp only [Bool.and_eq_true, decide_eq_true_eq] at h
   obtain ⟨⟨⟨h1, h2⟩, h3⟩, h4⟩ := h
   have h1 := nat_beq h1
   subst h1
   have hu := arrOf_ok harr
   have vx : X = .agg xs.toArray := vx
   have vy : Y = .agg ys.toArray := vy
   subst vx vy
   have hs := sizeOf_ok h3
   obtain ⟨i, hi, hsz⟩ := hs
   show (Op.equalIn ((d + m) + 1) t _ _).run P W = _
   rw [run_equalIn_array W (d + m) _ _ hu hi]
   have hc : P.cellsOf e = u.size := by simp [Program.cellsOf, hi, hsz]
   rw [hc, List.range_eq_range']
   have := eqItems_ok (P := P) (XS := xs.toArray) (YS := ys.toArray) (eqT_ok m u e h4 d) (aggOf_ok h2) ⟨i, hi, hsz⟩ (by simpa using hx) (by simpa using hy) n 0 (by omega)
   simpa [U.eq] using this
  ·cases h
end
theorem map_mem {α β : Type} {f g : α → β} : ∀ {l : List α}, l.map f = l.map g → ∀ x ∈ l, f x = g x := by
 intro l h x hx
 exact (List.map_inj_left.1 h) x hx
theorem teOk_of {l : TL} (h : teChk P l = true) (hz : l.tyL.map (fun p => zeroOf P p.1) = l.tyL.map (fun p => some (zcells p.2))) (he : l.elL.map (fun p => (sliceOf P p.1).bind (zeroOf P)) = l.elL.map (fun p => some (zcells p.2)))
  (ha : l.arL.map (fun p => (arrOf P p.1).bind (fun q => zeroOf P q.2)) = l.arL.map (fun p => some (zcells p.2.2)))
  (hbz : l.bzL.map (fun p => zeroOf P p.1) = l.bzL.map (fun p => some (bzcells p.2))) (hsrt : ∀ f g, Go.Proofs.YtdokfjkihjkcmaaGreatDoor.Den.srt f = some g → SrtOk P f g) : TEok P l.te := by
 unfold teChk at h
 simp only [Bool.and_eq_true, List.all_eq_true] at h
 obtain ⟨⟨⟨⟨⟨⟨⟨⟨⟨⟨⟨⟨⟨hmp, h00⟩, h01⟩, h02⟩, h1⟩, h2⟩, h3⟩, h4⟩, h5⟩, h6⟩, hfp⟩, h7⟩, h7b⟩, h8⟩ := h
 have zero : ∀ {t : Nat} {cs : List Value}, zeroOf P t = some cs → ∃ i z, P.info? t = some i ∧ i.zero = some z ∧ z.cells.toList = cs := by
  intro t cs h
  unfold zeroOf at h
  obtain ⟨z, g1, g2⟩ := Option.map_eq_some_iff.1 h
  obtain ⟨i, g3, g4⟩ := Option.bind_eq_some_iff.1 g1
  exact ⟨i, z, g3, g4, g2⟩
 refine ⟨hsrt, fun t ht => ?_, fun t b bl ht => ?_, fun t name f r ht => ?_, h1, fun t ht => ?_, fun t ht => ?_, fun t n g ht => ?_, fun t u ht => ?_, fun t ht => ?_, fun t k ht => ?_, fun t u ht => ?_, fun t n u ht => ?_, fun t u ht => ?_, fun t f o ht => ?_, fun t f o n g ht => ?_, fun t a b ht => ?_, fun t ht => ?_, fun t u ht hok hag => ?_⟩
 ·have ht : l.coL.any (fun k => Nat.beq k t) = true := ht
  obtain ⟨k, hk, he⟩ := List.any_eq_true.1 ht
  have := nat_beq he
  subst this
  have := h01 k hk
  unfold coChk at this
  split at this
  ·rename_i d hd
   exact ⟨d, hd, by simpa using this⟩
  ·cases this
 ·obtain ⟨i, z, z1, z2, z3⟩ := zero (map_mem hbz _ (look1_mem ht))
  have g := h00 _ (look1_mem ht)
  simp only [bzChk] at g
  split at g
  ·rename_i fs hfs
   split at g
   ·rename_i pl hpl
    have g : pl = fldL (bzU (b :: bl)) 0 := of_decide_eq_true g
    refine ⟨i, z, z1, z2, z3, fs, pl, structOf_ok hfs, hpl, fun f o ho => ?_⟩
    obtain ⟨v, v1, v2⟩ := off_fldL (p := 0) ho
    refine ⟨v, v1, ?_⟩
    rw [g]
    simpa using v2
   ·cases g
  ·cases g
 ·have hm := h02 _ (lookM_mem (show lookM l.meL t name = some (f, r) from ht))
  unfold meChk at hm
  split at hm
  case h_2 => cases hm
  rename_i i hi
  split at hm
  case h_2 => cases hm
  rename_i m hfm
  simp only [Bool.and_eq_true] at hm
  obtain ⟨hp, hm⟩ := hm
  split at hm
  case h_2 => cases hm
  rename_i f' q hfq
  simp only [Bool.and_eq_true] at hm
  obtain ⟨hb, hm⟩ := hm
  have hb := nat_beq hb
  subst hb
  split at hm
  case h_2 => cases hm
  rename_i d hd
  refine ⟨i, m, q, hi, hfm, by simpa using hp, hfq, ?_⟩
  cases r with
  | none => exact ⟨d, hd, by simpa using hm⟩
  | some e =>
   simp only [Bool.and_eq_true, decide_eq_true_eq, Bool.not_eq_true'] at hm
   refine ⟨?_, hm.2⟩
   have := hm.1
   cases d <;> simp [meChk.ptrOf] at this
   rw [hd, this]
 ·exact isStr_ok (h7 t (by simpa [TL.te] using ht))
 ·have g := h7b t (by simpa [TL.te] using ht)
  unfold isByt at g
  split at g
  ·rename_i e he
   exact ⟨e, sliceOf_ok he, isInt_ok g⟩
  ·cases g
 ·have := h3 _ (look1_mem ht)
  simp only [szChk, Bool.and_eq_true, decide_eq_true_eq, Bool.or_eq_true] at this
  obtain ⟨⟨g1, g2⟩, g3⟩ := this
  exact ⟨⟨sizeOf_ok g2, aggOf_ok g1⟩, fun hg => g3.elim (fun g3 => by rw [hg] at g3; cases g3) (fun g3 => nat_beq g3)⟩
 ·exact zero (map_mem hz _ (look1_mem ht))
 ·exact isBool_ok (h2 _ (look1_mem ht))
 ·exact isInt_ok (h2 _ (look1_mem ht))
 ·have g := h4 _ (look1_mem ht)
  have gz := map_mem he _ (look1_mem ht)
  simp only [elChk] at g
  split at g
  ·rename_i e hsl
   simp only [Bool.and_eq_true, decide_eq_true_eq] at g
   obtain ⟨⟨g1, g2⟩, g3⟩ := g
   simp only [hsl, Option.bind_some] at gz
   obtain ⟨i, z, z1, z2, z3⟩ := zero gz
   obtain ⟨i2, e1, e2⟩ := sizeOf_ok g2
   rw [z1] at e1
   injection e1 with e1
   subst e1
   have e3 : i.bytes = (look1 l.ebL t).getD 0 := by simpa [bytesOf?, z1] using g3
   exact ⟨e, sliceOf_ok hsl, aggOf_ok g1, i, z, z1, e2, e3, z2, z3⟩
  ·cases g
 ·have g := h5 _ (look1_mem ht)
  have gz := map_mem ha _ (look1_mem ht)
  simp only [arChk] at g
  split at g
  ·rename_i n' e hsl
   simp only [Bool.and_eq_true, decide_eq_true_eq] at g
   obtain ⟨⟨g0, g1⟩, g2⟩ := g
   have g0 := nat_beq g0
   subst g0
   simp only [hsl, Option.bind_some] at gz
   obtain ⟨i, z, z1, z2, z3⟩ := zero gz
   obtain ⟨i2, e1, e2⟩ := sizeOf_ok g2
   rw [z1] at e1
   injection e1 with e1
   subst e1
   exact ⟨e, i.bytes, arrOf_ok hsl, aggOf_ok g1, i, z, z1, e2, rfl, z2, z3⟩
  ·cases g
 ·have g := hmp _ (look1_mem ht)
  unfold mpChk at g
  simp only [Bool.and_eq_true] at g
  obtain ⟨g1, g2⟩ := g
  split at g2
  ·rename_i k e hke
   simp only [Bool.and_eq_true, decide_eq_true_eq] at g2
   obtain ⟨⟨g2, g3⟩, g4⟩ := g2
   obtain ⟨i, z, z1, z2, z3⟩ := zero (map_mem hz _ (look1_mem g3))
   refine ⟨g1, k, e, hke, isInt_ok g2, z, fun W => run_zero z1 z2 W, ?_⟩
   have hb : (P.info? e).bind (·.zero) = some z := by rw [z1]; exact z2
   rw [hb] at g4
   have : z.cells = #[z] := by cases z <;> first | rfl | (cases g4; done)
   rw [this] at z3
   simpa using z3.symm
  ·cases g2
 ·have g := h6 _ (look2_mem ht)
  simp only [foChk] at g
  split at g
  ·rename_i fs hfs
   split at g
   ·rename_i fd hfd
    simp only [Bool.and_eq_true] at g
    obtain ⟨g1, g2⟩ := g
    split at g2
    ·rename_i n hn
     obtain ⟨i, e1, e2⟩ := sizeOf_ok hn
     refine ⟨fs, fd, structOf_ok hfs, hfd, nat_beq g1, i, e1, ?_⟩
     rintro e
     rw [e2] at e
     subst e
     cases g2
    ·cases g2
   ·cases g
  ·cases g
 ·have g' := hfp _ (look3_mem ht)
  simp only [fpChk] at g'
  split at g'
  ·rename_i fs hfs
   split at g'
   ·rename_i fd hfd
    simp only [Bool.and_eq_true, Bool.or_eq_true, decide_eq_true_eq] at g'
    obtain ⟨⟨⟨g1, g2⟩, g3⟩, g4⟩ := g'
    refine ⟨fs, fd, structOf_ok hfs, hfd, nat_beq g1, ⟨sizeOf_ok g2, aggOf_ok g3⟩, fun hg => ?_⟩
    rcases g4 with g4 | g4
    ·rw [hg] at g4; cases g4
    ·exact nat_beq g4
   ·cases g'
  ·cases g'
 ·have g := h2 _ (look1_mem ht)
  simp only [tyChk] at g
  split at g
  ·rename_i fs hfs
   split at g
   ·rename_i pl hpl
    have g : pl = fldL (.cons a b) 0 := of_decide_eq_true g
    refine ⟨fs, pl, structOf_ok hfs, hpl, fun f o ho => ?_⟩
    obtain ⟨v, v1, v2⟩ := off_fldL (p := 0) ho
    refine ⟨v, v1, ?_⟩
    rw [g]
    simpa using v2
   ·cases g
  ·cases g
 ·have g := h2 _ (look1_mem ht)
  simp only [tyChk] at g
  split at g
  ·rename_i fs hfs
   obtain ⟨pl, hpl⟩ := Option.isSome_iff_exists.1 g
   exact ⟨fs, pl, structOf_ok hfs, hpl⟩
  ·cases g
 ·have g := h8 _ (look1_mem ht)
  simp only [eqChk, hok, hag, Bool.and_true, Bool.not_true, Bool.false_or, Bool.and_eq_true, Bool.not_eq_true'] at g
  refine ⟨g.1, fun W I I' x y xs ys hx hy => ?_⟩
  have := eqT_ok (P := P) (W := W) (I := I) (I' := I') 20 u t g.2 9980 x y xs ys (.agg xs.toArray) (.agg ys.toArray) hx hy (by rw [hag]; rfl) (by rw [hag]; rfl)
  simpa using this
end
end Go.Proofs.YtdokfjkihjkcmaaGreatDoor.Den
