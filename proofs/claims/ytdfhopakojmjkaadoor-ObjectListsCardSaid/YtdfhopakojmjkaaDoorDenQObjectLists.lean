/- The pure law ObjectLists. -/
import Derived.Test.YtdfhopakojmjkaaDoorDenPr
namespace Go.Proofs.YtdfhopakojmjkaaDoor.Den
open Go
set_option linter.unusedVariables false
set_option linter.unusedSimpArgs false
set_option maxRecDepth 100000

theorem awake8 : flotsamlaw08_awake () = some (true, ()) := by kernel_rfl
theorem objectLists_pure : ∀ x, Good (.cons cHeap (.cons cI .nil)) x → flotsamlaw08_ObjectLists x = some (true, ()) := by
  rintro ⟨(h : Heap), (at_ : Int), ⟨⟩⟩ ⟨gh, ga, -⟩
  have gh : Good cHeap h := gh
  have ga : (-9223372036854775808 : Int) ≤ at_ ∧ at_ ≤ 9223372036854775807 := ga
  simp only [flotsamlaw08_ObjectLists, flotsamlaw08_ObjectLists_r, awake8, form_eq gh, Option.bind_some, Bool.not_true, cond_false, condn]
  cases hf : formB h with
  | false => rfl
  | true =>
    have f := form_of gh hf
    have hn := f.n16
    have hl := f.len
    have hll := lst_len f
    simp only [cond_true, objList_eq f, Option.bind_some]
    have run : flotsamlaw08_ObjectLists_l0 (at_, 0, h, lst h, ()) = some (.out (at_, h, lst h, ())) := by
      unfold flotsamlaw08_ObjectLists_l0
      refine iterL_run (lst h).length (fun i => (at_, (i : Int), h, lst h, ())) (fun i hi => ?_) ?_ (by omega) rfl
      · have ho := (mem_lst f).1 (List.getElem_mem hi)
        have hr := fndB_rng (og_ok ho).1
        obtain ⟨l, e1, e2⟩ := objRefs_le f ho
        have hog : (og h (lst h)[i]).2.1 = true := ho
        simp only [flotsamlaw08_ObjectLists_s0, flotsamlaw08_ObjectLists_s0r, Bool.cond_decide, Int.toNat_natCast, get_d _ _ _ hi]
        rw [if_pos (by omega), if_pos (by omega), if_pos (by omega), objGet_eq f (by omega) (by omega)]
        simp only [Option.bind_some, hog, Bool.not_true, cond_false, e1]
        rw [wi64_id (n := (i : Int) + 1) (by omega) (by omega)]
        by_cases h0 : (i : Int) > 0
        · have hlt : (lst h)[i - 1]'(by omega) < (lst h)[i] := (List.pairwise_iff_getElem.1 (lst_sorted h)) (i - 1) i (by omega) hi (by omega)
          have ei : ((i : Int) - 1).toNat = i - 1 := by omega
          rw [if_pos h0, wi64_id (n := (i : Int) - 1) (by omega) (by omega), if_pos (by omega), if_pos (by omega), if_pos (by omega), if_pos (by omega)]
          rw [ei, get_d _ _ _ (by omega : i - 1 < (lst h).length), if_neg (by omega), if_pos (by omega), if_pos (by omega), if_neg (by omega)]
          rfl
        · rw [if_neg h0, if_pos (by omega), if_pos (by omega), if_neg (by omega)]
          rfl
      · simp only [flotsamlaw08_ObjectLists_s0, flotsamlaw08_ObjectLists_s0r, Bool.cond_decide]
        rw [if_neg (by omega)]
    simp only [run, Option.bind_some, objGet_eq f (a := at_) ga.1 (by omega), in8_eq (lst h) at_ (by omega)]
    have : (og h at_).2.1 = decide (at_ ∈ lst h) := by
      have := mem_lst f (a := at_)
      unfold okA at this
      cases e : (og h at_).2.1
      · symm
        rw [decide_eq_false_iff_not]
        intro hm
        have := this.1 hm
        rw [e] at this
        cases this
      · symm
        rw [decide_eq_true_eq]
        exact this.2 e
    rw [this]
    simp
end Go.Proofs.YtdfhopakojmjkaaDoor.Den
