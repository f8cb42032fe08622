
/- Pure laws: painting, rows of objects, shading. -/
import Derived.Test.YtdiogegolnoeoaaDoorDenPh
namespace Go.Proofs.YtdiogegolnoeoaaDoor.Den
open Go
set_option linter.unusedVariables false
set_option linter.unusedSimpArgs false
set_option maxRecDepth 100000

def pw (s : Bool) (w : Int) : Int := 128 + (bif s then 64 else 0) + w % 64
theorem pw_rng (s : Bool) (w : Int) : 128 ≤ pw s w ∧ pw s w < 256 := by
  unfold pw; cases s <;> simp only [cond_true, cond_false] <;> omega
theorem hok_rng {w : Int} (h : hok w = true) : 128 ≤ w ∧ w < 256 := by
  simp only [hok, Bool.and_eq_true, decide_eq_true_eq] at h; omega
theorem pw_put : ∀ n : Nat, n < 256 → ∀ s : Bool, hok n = true → header_Put ((true, s, (n : Int) / 16 % 4, (n : Int) % 16, ()), ()) = some (pw s n, true, ()) ∧ flotsamref02_Put ((true, s, (n : Int) / 16 % 4, (n : Int) % 16, ()), ()) = some (pw s n, ()) := by
  have : ((List.range 256).all fun n => [true, false].all fun s => !hok n || (decide (header_Put ((true, s, (n : Int) / 16 % 4, (n : Int) % 16, ()), ()) = some (pw s n, true, ())) && decide (flotsamref02_Put ((true, s, (n : Int) / 16 % 4, (n : Int) % 16, ()), ()) = some (pw s n, ())))) = true := by kernel_rfl
  intro n hn s hk
  simp only [List.all_eq_true] at this
  have h := this n (by simpa using hn) s (by cases s <;> simp)
  rw [hk] at h
  simp only [Bool.not_true, Bool.false_or, Bool.and_eq_true, decide_eq_true_eq] at h
  exact h
theorem pw_put' {w : Int} (hk : hok w = true) (s : Bool) : header_Put ((true, s, w / 16 % 4, w % 16, ()), ()) = some (pw s w, true, ()) ∧ flotsamref02_Put ((true, s, w / 16 % 4, w % 16, ()), ()) = some (pw s w, ()) := by
  have := hok_rng hk
  obtain ⟨n, rfl⟩ := Int.eq_ofNat_of_zero_le (show 0 ≤ w by omega)
  exact pw_put n (by omega) s hk
theorem og_ok {h : Heap} {a : Int} (e : (og h a).2.1 = true) : fndB h a = true ∧ hok (h.1.getD a.toNat 0) = true ∧ a % 32 + h.1.getD a.toNat 0 % 16 < 32 ∧ og h a = (hd (h.1.getD a.toNat 0), true, ()) := by
  unfold og at *
  split at e
  · rename_i hc
    rw [if_pos hc]
    simp only [Bool.and_eq_true, decide_eq_true_eq] at hc
    exact ⟨hc.1.1, hc.1.2, hc.2, rfl⟩
  · cases e
/-- A heap with an object painted. -/
def nh (h : Heap) (a : Int) : Heap := (h.1.set a.toNat (pw h.2.2.1 (h.1.getD a.toNat 0)), h.2.1, h.2.2)
theorem paint_eq {h : Heap} (f : FormP h) {a : Int} (l : -9223372036854775808 ≤ a) (u : a < 9223372036854775808) : object_Paint (h, a, ()) = some (if (og h a).2.1 = true then (nh h a, true, ()) else (h, false, ())) := by
  have hn := f.n16
  have hl := f.len
  simp only [object_Paint, object_Paint_r, objGet_eq f l u, Option.bind_some]
  by_cases e : (og h a).2.1 = true
  · obtain ⟨e1, e2, e3, e4⟩ := og_ok e
    have := fndB_rng e1
    rw [if_pos e, e4]
    simp only [Bool.not_true, cond_false, hd, (pw_put' e2 _).1, Option.bind_some, object_with, object_with_r, slices_Clone_uint64, slices_Clone_api_Span, cloneF, Bool.cond_decide]
    rw [if_pos (by omega), Option.bind_some, if_pos (by omega), Option.bind_some]
    simp only []
    rw [if_pos (by omega), if_pos (by omega)]
    rfl
  · rw [if_neg e]
    simp only [Bool.not_eq_true] at e
    simp only [e, Bool.not_false, cond_true]
theorem with8_l0 (h : Heap) (hl : h.1.length ≤ 512) (p : Nat) (hp : p < h.1.length) (w : Int) :
    flotsamref08_with_l0 (p, w, 0, h, (false, ()), (h.2.2.1, ()), h.2.1, [], ()) = some (.out ((false, ()), (h.2.2.1, ()), h.2.1, h.1.set p w, ())) := by
  unfold flotsamref08_with_l0
  refine iterL_run h.1.length (fun i => ((p : Int), w, (i : Int), h, (false, ()), (h.2.2.1, ()), h.2.1, (h.1.set p w).take i, ())) (fun i hi => ?_) ?_ (by omega) rfl
  · simp only [flotsamref08_with_s0, flotsamref08_with_s0r, Bool.cond_decide, ibeq]
    have hi' : i < (h.1.set p w).length := by rw [List.length_set]; exact hi
    have ht : (h.1.set p w).take (i + 1) = (h.1.set p w).take i ++ [(h.1.set p w)[i]] := (List.take_append_getElem hi').symm
    have hlen : ((h.1.set p w).take i).length = i := by rw [List.length_take]; omega
    by_cases e : p = i
    · rw [if_pos (by omega), if_pos (by omega), if_pos (by omega), if_pos (show (i : Int) = p by omega), if_pos (by omega), wi64_id (by omega) (by omega), ht, List.getElem_set, if_pos e]; rfl
    · rw [if_pos (by omega), if_pos (by omega), if_pos (by omega), if_neg (show ¬ (i : Int) = p by omega), if_pos (by omega), wi64_id (by omega) (by omega), ht, List.getElem_set, if_neg e, Int.toNat_natCast, get_d _ _ _ hi]; rfl
  · simp only [flotsamref08_with_s0, flotsamref08_with_s0r, Bool.cond_decide]
    rw [if_neg (by omega), List.take_of_length_le (by rw [List.length_set]; exact Nat.le_refl _)]
theorem FormP.nh {h : Heap} (f : FormP h) (a : Int) : FormP (nh h a) := by
  refine ⟨f.n1, f.n16, ?_, f.right, fun w hw => ?_⟩
  · show (h.1.set _ _).length = _
    rw [List.length_set]; exact f.len
  · rcases List.mem_or_eq_of_mem_set hw with hw | rfl
    · exact f.word w hw
    · have := pw_rng h.2.2.1 (h.1.getD a.toNat 0); omega

/-! Rows of objects. -/
structure GreyP (g : Grey) : Prop where
  r0 : 0 ≤ g.1
  r16 : g.1 ≤ 16
  len : (g.2.1.length : Int) ≤ g.1
def gp (g : Grey) (a : Int) : Grey × Bool × Unit := if a < 0 ∨ g.1 ≤ g.2.1.length then (g, false, ()) else ((g.1, g.2.1 ++ [a], ()), true, ())
theorem push_eq {g : Grey} (p : GreyP g) (a : Int) : grey_Push (g, a, ()) = some (gp g a) := by
  have h1 := p.r16
  have h2 := p.len
  simp only [grey_Push, grey_Push_r, Bool.cond_decide, ibeq, gp]
  by_cases e : (g.2.1.length : Int) ≥ g.1
  · rw [if_pos e, if_pos (.inr e)]
  rw [if_neg e]
  by_cases e' : a < 0
  · rw [if_pos e', if_pos (.inl e')]
  rw [if_neg e', if_neg (show ¬ (a < 0 ∨ g.1 ≤ g.2.1.length) by omega)]
  simp only [List.drop_zero, Int.toNat_natCast, Nat.sub_zero, List.take_length, if_true, Bool.or_true, cond_true]
  rw [if_pos (by omega), if_pos (by omega), if_pos (by omega)]
theorem GreyP.gp {g : Grey} (p : GreyP g) (a : Int) : GreyP (gp g a).1 := by
  unfold Den.gp
  split
  · exact p
  · rename_i h
    refine ⟨p.r0, p.r16, ?_⟩
    show ((g.2.1 ++ [a]).length : Int) ≤ g.1
    rw [List.length_append]
    simp only [List.length_singleton]
    omega

/-! Shading. -/
abbrev ShT : Type := Heap × Grey × Bool × Unit
def sh (h : Heap) (g : Grey) (v : Val) : ShT := if v.1 = 2 ∧ (og h v.2.1).2.1 = true ∧ bk h v.2.1 = false then (nh h v.2.1, (gp g v.2.1).1, !(gp g v.2.1).2.1, ()) else (h, g, false, ())
theorem shade_eq {h : Heap} (f : FormP h) {g : Grey} (p : GreyP g) {v : Val} (l : -9223372036854775808 ≤ v.2.1) (u : v.2.1 < 9223372036854775808) : shade_Shade (h, g, v, ()) = some (sh h g v) := by
  simp only [shade_Shade, shade_Shade_r, Bool.cond_decide, ibne, black_eq f l u, paint_eq f l u, push_eq p, Option.bind_some, sh]
  by_cases e : v.1 = 2
  · rw [if_neg (by simpa using e)]
    cases hb : bk h v.2.1 with
    | true => simp
    | false =>
      simp only [cond_false]
      by_cases ho : (og h v.2.1).2.1 = true
      · simp only [if_pos ho, Bool.not_true, cond_false]
        rw [if_pos ⟨e, ho, trivial⟩]
      · rw [if_neg ho]
        simp only [Bool.not_false, cond_true]
        rw [if_neg (fun hh => ho hh.2.1)]
  · rw [if_pos e, if_neg (fun h => e h.1)]
def as1 (s : ShT) (v : Val) : ShT := ((sh s.1 s.2.1 v).1, (sh s.1 s.2.1 v).2.1, s.2.2.1 || (sh s.1 s.2.1 v).2.2.1, ())
def al (h : Heap) (g : Grey) (vs : List Val) : ShT := vs.foldl as1 (h, g, false, ())
theorem sh_ok {h : Heap} (f : FormP h) {g : Grey} (p : GreyP g) (v : Val) : FormP (sh h g v).1 ∧ GreyP (sh h g v).2.1 := by
  unfold sh
  split
  · exact ⟨f.nh _, p.gp _⟩
  · exact ⟨f, p⟩
theorem al_ok : ∀ (vs : List Val) (s : ShT), FormP s.1 → GreyP s.2.1 → FormP (vs.foldl as1 s).1 ∧ GreyP (vs.foldl as1 s).2.1
  | [], s, f, p => ⟨f, p⟩
  | v :: vs, s, f, p => al_ok vs (as1 s v) (sh_ok f p v).1 (sh_ok f p v).2
def ValsP (vs : List Val) : Prop := vs.length ≤ 100 ∧ ∀ v : Val, v ∈ vs → -9223372036854775808 ≤ v.2.1 ∧ v.2.1 < 9223372036854775808
theorem fold_take (vs : List Val) (s : ShT) (i : Nat) (hi : i < vs.length) : (vs.take (i + 1)).foldl as1 s = as1 ((vs.take i).foldl as1 s) vs[i] := by
  rw [← List.take_append_getElem hi, List.foldl_append]; rfl
end Go.Proofs.YtdiogegolnoeoaaDoor.Den
