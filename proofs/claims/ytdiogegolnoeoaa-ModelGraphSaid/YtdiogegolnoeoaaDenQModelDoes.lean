/- The pure law ModelDoes. -/
import Derived.Test.YtdiogegolnoeoaaDenWb
namespace Go.Proofs.Ytdiogegolnoeoaa.Den
open Go
set_option linter.unusedVariables false
set_option linter.unusedSimpArgs false
set_option maxRecDepth 100000

theorem awake24 : flotsamlaw24_awake () = some (true, ()) := by kernel_rfl
theorem LM.mk' {m : Model} (q : LM m) (hl : m.2.1.length ≤ 999) {n : Nat} (hn : n ≤ 15) : LM (mkV m n) := by
  refine ⟨?_, fun i hi => ?_, q.ss, q.sl⟩
  · show (m.2.1 ++ [_]).length ≤ 1000
    rw [List.length_append]; simp; omega
  · show ((m.2.1 ++ [_]).getD i zt).2.1.length ≤ 1000
    by_cases h : i < m.2.1.length
    · rw [get_d _ _ _ (by rw [List.length_append]; omega), List.getElem_append_left h, ← get_d m.2.1 i zt h]
      exact q.fs i h
    · have hi : i < (m.2.1 ++ [(m.1, List.replicate n ((0, 0, ()) : Val), ())]).length := hi
      rw [get_d _ _ _ hi, List.getElem_append_right (by omega)]
      simp
      omega
theorem LM.set' {m : Model} (q : LM m) (id f : Int) (v : Val) : LM (setV m id f v).1 := by
  unfold setV
  split
  · rename_i k hk
    have hkl := (fi_some hk).1
    split
    · exact q
    · refine ⟨by show (m.2.1.set _ _).length ≤ 1000; rw [List.length_set]; exact q.ts, fun i hi => ?_, q.ss, q.sl⟩
      have hi : i < (m.2.1.set k ((m.2.1.getD k zt).1, (m.2.1.getD k zt).2.1.set f.toNat v, ())).length := hi
      show ((m.2.1.set k _).getD i zt).2.1.length ≤ 1000
      rw [get_d _ _ _ hi, List.getElem_set]
      rw [List.length_set] at hi
      split
      · show ((m.2.1.getD k zt).2.1.set f.toNat v).length ≤ 1000
        rw [List.length_set]
        exact q.fs k hkl
      · rw [← get_d m.2.1 i zt hi]
        exact q.fs i hi
  · exact q
theorem gt_len {m : Model} (q : LM m) (id : Int) : (gtV m id).1.2.1.length ≤ 1000 := by
  unfold gtV
  split
  · rename_i k hk
    exact q.fs k (fi_some hk).1
  · show ([] : List Val).length ≤ 1000
    simp
theorem modelDoes_pure : ∀ x, Good (.cons cModel (.cons cI (.cons cI (.cons cVal (.cons (.int .u8) .nil))))) x → flotsamlaw24_ModelDoes x = some (true, ()) := by
  rintro ⟨(m : Model), (id : Int), (f : Int), (v : Val), (n : Int), ⟨⟩⟩ ⟨gm, gi, gf, gv, gn, -⟩
  have gn : (0 : Int) ≤ n ∧ n ≤ 255 := gn
  have gx : (-9223372036854775808 : Int) ≤ m.1 ∧ m.1 ≤ 9223372036854775807 := gm.1
  obtain ⟨r, e1, e2⟩ := few24_eq m
  simp only [flotsamlaw24_ModelDoes, flotsamlaw24_ModelDoes_r, awake24, Option.bind_some, Bool.not_true, cond_false, e1]
  cases r with
  | false => rfl
  | true =>
  have fm := e2 rfl
  have h40 := fm.ts
  have nx := fm.nx
  have q := fm.lm
  simp only [Bool.not_true, cond_false, right_eqM (m := m) (by omega), right24_eq (m := m) (by omega), Option.bind_some, beq_self_eq_true]
  cases hr : rightM m with
  | false => rfl
  | true =>
  have r := RM.of hr
  simp only [Bool.not_true, cond_false]
  have hn : n.tmod 16 = ((n.toNat % 16 : Nat) : Int) := by
    rw [Int.tmod_eq_emod_of_nonneg gn.1, Int.natCast_emod, Int.toNat_of_nonneg gn.1]
    rfl
  have hm16 : n.toNat % 16 ≤ 15 := by omega
  rw [hn, wi64_id (by omega) (by omega), get_eqM r (by omega), get24_eq (by omega)]
  have h0 := gx.1
  · rw [make_eqM (by omega) h0 nx hm16, make24_eq (by omega) h0 nx hm16, set_eqM r q, set24_eq r q]
    simp only [Option.bind_some, beq_self_eq_true, cond_true]
    rw [same1W _ (by have := gt_len q id; omega)]
    simp only [Option.bind_some, cond_true]
    have s1 : flotsamref24_Same (((mkV m (n.toNat % 16)).1, (mkV m (n.toNat % 16)).2.1, (mkV m (n.toNat % 16)).2.2), ((mkV m (n.toNat % 16)).1, (mkV m (n.toNat % 16)).2.1, (mkV m (n.toNat % 16)).2.2), ()) = some (true, ()) := same24W (q.mk' (by omega) hm16)
    rw [s1]
    simp only [Option.bind_some, cond_true]
    rw [same24W (q.set' id f v)]
    rfl
end Go.Proofs.Ytdiogegolnoeoaa.Den
