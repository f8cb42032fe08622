
/- Pure law: from two rows of values together what is reached from either; from what is reached itself no more. -/
import Derived.Test.YtdiogegolnoeoaaDoorDenVa
namespace Go.Proofs.YtdiogegolnoeoaaDoor.Den
open Go
set_option linter.unusedVariables false
set_option linter.unusedSimpArgs false
set_option maxRecDepth 100000

theorem named_app (a b : List Val) (p : Int) : named (a ++ b) p = (named a p || named b p) := by
  unfold named
  rw [List.any_append]
theorem rch_mono {h : Heap} {a b : List Val} (hn : ∀ p, named a p = true → named b p = true) {p : Int} (r : Rch h a p) : Rch h b p := by
  induction r with
  | base ho h1 => exact .base ho (hn _ h1)
  | step _ hb ho ih => exact .step ih hb ho
theorem rch_app {h : Heap} {a b : List Val} {p : Int} : Rch h (a ++ b) p ↔ Rch h a p ∨ Rch h b p := by
  constructor
  · intro r
    induction r with
    | base ho h1 =>
      rw [named_app, Bool.or_eq_true] at h1
      exact h1.imp (.base ho) (.base ho)
    | step _ hb ho ih => exact ih.imp (fun r => .step r hb ho) (fun r => .step r hb ho)
  · rintro (r | r)
    · exact rch_mono (fun q hq => by rw [named_app, hq]; rfl) r
    · exact rch_mono (fun q hq => by rw [named_app, hq, Bool.or_true]) r
theorem rch_nil {h : Heap} {p : Int} : ¬ Rch h [] p := by
  intro r
  induction r with
  | base _ h1 => cases h1
  | step _ _ _ ih => exact ih
def refV (l : List Int) : List Val := l.map fun a => (2, a, ())
theorem named_refV {l : List Int} {p : Int} : named (refV l) p = true ↔ p ∈ l := by
  rw [← mem_vrefs]
  have : vrefs (refV l) = l := by
    unfold vrefs refV
    induction l with
    | nil => rfl
    | cons a l ih => simpa using ih
  rw [this]
theorem rch_self {h : Heap} (f : FormP h) (a : List Val) (p : Int) : Rch h (refV ((lst h).filter (rchB h a))) p ↔ Rch h a p := by
  constructor
  · intro r
    induction r with
    | base ho h1 =>
      have := named_refV.1 h1
      rw [List.mem_filter, rchB_iff] at this
      exact this.2
    | step _ hb ho ih => exact .step ih hb ho
  · intro r
    refine .base r.ok (named_refV.2 ?_)
    rw [List.mem_filter, rchB_iff]
    exact ⟨(mem_lst f).2 r.ok, r⟩
theorem awake15 : flotsamlaw15_awake () = some (true, ()) := by kernel_rfl

theorem reachLeast_pure : ∀ x, Good (.cons cHeap (.cons (.sl cVal) (.cons (.sl cVal) .nil))) x → flotsamlaw15_ReachLeast x = some (true, ()) := by
  rintro ⟨(h : Heap), (a : List Val), (b : List Val), ⟨⟩⟩ ⟨gh, ga, gb, -⟩
  have gh : Good cHeap h := gh
  have va : ∀ v : Val, v ∈ a → -9223372036854775808 ≤ v.2.1 ∧ v.2.1 < 9223372036854775808 := fun v hv => by
    obtain ⟨h1, h2⟩ : (-9223372036854775808 : Int) ≤ v.2.1 ∧ v.2.1 ≤ 9223372036854775807 := (ga.2 v hv).2.1
    omega
  have vb : ∀ v : Val, v ∈ b → -9223372036854775808 ≤ v.2.1 ∧ v.2.1 < 9223372036854775808 := fun v hv => by
    obtain ⟨h1, h2⟩ : (-9223372036854775808 : Int) ≤ v.2.1 ∧ v.2.1 ≤ 9223372036854775807 := (gb.2 v hv).2.1
    omega
  simp only [flotsamlaw15_ReachLeast, flotsamlaw15_ReachLeast_r, awake15, form_eq gh, Option.bind_some, Bool.not_true, cond_false, Bool.cond_decide]
  cases hf : formB h with
  | false => simp only [Bool.not_false, cond_true]
  | true =>
  have f := form_of gh hf
  simp only [Bool.not_true, cond_false]
  by_cases la : (a.length : Int) > 100
  · rw [if_pos la]
  rw [if_neg la]
  by_cases lb : (b.length : Int) > 100
  · rw [if_pos lb]
  rw [if_neg lb]
  have lx := lst_len f
  have fl : ∀ p, ((lst h).filter p).length ≤ 512 := fun p => Nat.le_trans (List.length_filter_le _ _) lx
  generalize hX : (lst h).filter (rchB h a) = X
  generalize hY : (lst h).filter (rchB h b) = Y
  generalize hZ : (lst h).filter (rchB h (a ++ b)) = Z
  have xl : X.length ≤ 512 := by rw [← hX]; exact fl _
  have yl : Y.length ≤ 512 := by rw [← hY]; exact fl _
  have zl : Z.length ≤ 512 := by rw [← hZ]; exact fl _
  have mX : ∀ p, p ∈ X ↔ Rch h a p := fun p => by rw [← hX, List.mem_filter, rchB_iff]; exact ⟨fun h => h.2, fun r => ⟨(mem_lst f).2 r.ok, r⟩⟩
  have mY : ∀ p, p ∈ Y ↔ Rch h b p := fun p => by rw [← hY, List.mem_filter, rchB_iff]; exact ⟨fun h => h.2, fun r => ⟨(mem_lst f).2 r.ok, r⟩⟩
  have mZ : ∀ p, p ∈ Z ↔ Rch h a p ∨ Rch h b p := fun p => by rw [← hZ, List.mem_filter, rchB_iff, rch_app]; exact ⟨fun h => h.2, fun r => ⟨(mem_lst f).2 (r.elim (fun r => r.ok) (fun r => r.ok)), r⟩⟩
  rw [from_eq f (by omega) va, from_eq f (by omega) vb, hX, hY]
  simp only [Option.bind_some]
  rw [if_pos (by omega), if_pos (by omega), from_eq f (by rw [List.length_append]; omega) (fun v hv => (List.mem_append.1 hv).elim (va v) (vb v)), hZ]
  simp only [Option.bind_some]
  have l0 : flotsamlaw15_ReachLeast_l0 (0, h, X, Y, Z, ()) = some (.out (h, X, Y, Z, ())) := by
    unfold flotsamlaw15_ReachLeast_l0
    refine iterL_run Z.length (fun i => ((i : Int), h, X, Y, Z, ())) (fun i hi => ?_) ?_ (by omega) rfl
    · have hm := (mZ _).1 (List.getElem_mem hi)
      simp only [flotsamlaw15_ReachLeast_s0, flotsamlaw15_ReachLeast_s0r, Bool.cond_decide]
      rw [if_pos (by omega), if_pos (by omega), if_pos (by omega), Int.toNat_natCast, get_d _ _ _ hi, in8_eq _ _ (by omega), in8_eq _ _ (by omega), wi64_id (by omega) (by omega)]
      simp only [Option.bind_some, condn, Bool.cond_decide]
      by_cases hx : Z[i] ∈ X
      · rw [if_pos hx]; rfl
      · rw [if_neg hx, if_pos (by omega), if_pos (by omega), if_pos ((mY _).2 (hm.resolve_left fun r => hx ((mX _).2 r)))]; rfl
    · simp only [flotsamlaw15_ReachLeast_s0, flotsamlaw15_ReachLeast_s0r, Bool.cond_decide]
      rw [if_neg (by omega)]
  have l1 : flotsamlaw15_ReachLeast_l1 (0, h, X, Y, Z, [], ()) = some (.out (h, X, Y, Z, refV X, ())) := by
    unfold flotsamlaw15_ReachLeast_l1
    refine iterL_run X.length (fun i => ((i : Int), h, X, Y, Z, refV (X.take i), ())) (fun i hi => ?_) ?_ (by omega) rfl
    · have hm := (mX _).1 (List.getElem_mem hi)
      have ht : (refV (X.take i)).length ≤ 512 := by simp [refV]; omega
      simp only [flotsamlaw15_ReachLeast_s1, flotsamlaw15_ReachLeast_s1r, Bool.cond_decide]
      rw [if_pos (by omega), if_pos (by omega), if_pos (by omega), if_pos (by omega), if_pos (by omega), if_pos (by omega), Int.toNat_natCast, get_d _ _ _ hi, in8_eq _ _ (by omega), wi64_id (by omega) (by omega)]
      simp only [Option.bind_some, condn, Bool.cond_decide]
      rw [if_pos ((mZ _).2 (.inl hm))]
      have : refV (X.take (i + 1)) = refV (X.take i) ++ [(2, X[i], ())] := by
        unfold refV
        rw [← List.take_append_getElem hi, List.map_append]
        rfl
      rw [this]
      rfl
    · simp only [flotsamlaw15_ReachLeast_s1, flotsamlaw15_ReachLeast_s1r, Bool.cond_decide]
      rw [if_neg (by omega), List.take_length]
  have l2 : flotsamlaw15_ReachLeast_l2 (0, h, X, Y, Z, refV X, ()) = some (.out (h, X, Z, refV X, ())) := by
    unfold flotsamlaw15_ReachLeast_l2
    refine iterL_run Y.length (fun i => ((i : Int), h, X, Y, Z, refV X, ())) (fun i hi => ?_) ?_ (by omega) rfl
    · have hm := (mY _).1 (List.getElem_mem hi)
      simp only [flotsamlaw15_ReachLeast_s2, flotsamlaw15_ReachLeast_s2r, Bool.cond_decide]
      rw [if_pos (by omega), if_pos (by omega), if_pos (by omega), Int.toNat_natCast, get_d _ _ _ hi, in8_eq _ _ (by omega), wi64_id (by omega) (by omega)]
      simp only [Option.bind_some, condn, Bool.cond_decide]
      rw [if_pos ((mZ _).2 (.inr hm))]
      rfl
    · simp only [flotsamlaw15_ReachLeast_s2, flotsamlaw15_ReachLeast_s2r, Bool.cond_decide]
      rw [if_neg (by omega)]
  have rl : (refV X).length ≤ 512 := by simp [refV]; omega
  have rv : ∀ v : Val, v ∈ refV X → -9223372036854775808 ≤ v.2.1 ∧ v.2.1 < 9223372036854775808 := fun v hv => by
    obtain ⟨p, hp, rfl⟩ := List.mem_map.1 hv
    have := og_rng f ((mX p).1 hp).ok
    have := f.n16
    show -9223372036854775808 ≤ p ∧ p < 9223372036854775808
    omega
  have eX : (lst h).filter (rchB h (refV X)) = X := by
    rw [← hX]
    exact List.filter_congr fun p _ => Bool.eq_iff_iff.2 (by rw [rchB_iff, rchB_iff]; exact rch_self f a p)
  have e0 : (lst h).filter (rchB h []) = [] := by
    rw [List.filter_eq_nil_iff]
    intro p _ hp
    exact rch_nil (rchB_iff.1 hp)
  simp only [l0, l1, l2, Option.bind_some, from_eq f (vs := refV X) (by omega) rv, eX, from_eq f (vs := []) (by simp) (fun v hv => by cases hv), e0, ints_eq X X (by omega), decide_true, cond_true, ibeq, Bool.cond_decide]
  rw [if_pos (show (([] : List Int).length : Int) = 0 from rfl)]
  have nX : X.Nodup := by rw [← hX]; exact rch_nodup h _
  have nZ : Z.Nodup := by rw [← hZ]; exact rch_nodup h _
  rw [words15_eq f nX (fun p hp => ((mX p).1 hp).ok), words15_eq f nZ (fun p hp => ((mZ p).1 hp).elim (fun r => r.ok) (fun r => r.ok))]
  simp only [Option.bind_some]
  rw [decide_eq_true]
  rw [← hX, ← hZ]
  exact wsum_filter h (fun p hp => rchB_iff.2 (rch_app.2 (.inl (rchB_iff.1 hp)))) _
end Go.Proofs.YtdiogegolnoeoaaDoor.Den
