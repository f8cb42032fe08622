/- 'slices.Sorted(maps.Keys(m))' of a map of whole numbers: out of the shelf's contracts. -/
import Derived.Test.YtkjpakaidjpjgaaGreatDoorDfnTe
import Derived.Shelf.SlIterI.Sorted
import Derived.Shelf.SlIterI.Collect
import Derived.Shelf.SortM.Plain
import Derived.Shelf.SortM.SortNone
namespace Go.Proofs.YtkjpakaidjpjgaaGreatDoor.Dfn
open Go Go.RowKit Go.Proofs
set_option linter.unusedVariables false
set_option linter.unusedSectionVars false

theorem insI_perm (x : Int) : ∀ l, (insI x l).Perm (x :: l)
  | [] => List.Perm.refl _
  | y :: r => by
    simp only [insI]
    cases decide (x ≤ y) with
    | true => exact List.Perm.refl _
    | false => exact ((insI_perm x r).cons y).trans (List.Perm.swap x y r)
theorem isort_perm : ∀ l, (isort l).Perm l
  | [] => List.Perm.refl _
  | x :: r => (insI_perm x _).trans ((isort_perm r).cons x)
theorem insI_pw (x : Int) : ∀ {l : List Int}, l.Pairwise (· ≤ ·) → (insI x l).Pairwise (· ≤ ·)
  | [], _ => by simp [insI]
  | y :: r, h => by
    obtain ⟨h1, h2⟩ := List.pairwise_cons.1 h
    simp only [insI]
    cases hd : decide (x ≤ y) with
    | true =>
      have hd := of_decide_eq_true hd
      refine List.pairwise_cons.2 ⟨fun z hz => ?_, h⟩
      rcases List.mem_cons.1 hz with rfl | hz
      · exact hd
      · exact Int.le_trans hd (h1 z hz)
    | false =>
      have hd := of_decide_eq_false hd
      refine List.pairwise_cons.2 ⟨fun z hz => ?_, insI_pw x h2⟩
      rcases List.mem_cons.1 ((insI_perm x r).mem_iff.1 hz) with rfl | hz
      · omega
      · exact h1 z hz
theorem isort_pw : ∀ l, (isort l).Pairwise (· ≤ ·)
  | [] => List.Pairwise.nil
  | x :: r => insI_pw x (isort_pw r)
theorem isort_eq {l m : List Int} (h : l.Perm m) : l.mergeSort leI = isort m := by
  have tr : ∀ a b c : Int, leI a b = true → leI b c = true → leI a c = true := fun a b c h1 h2 => by simp only [leI, decide_eq_true_eq] at *; exact Int.le_trans h1 h2
  have to : ∀ a b : Int, (leI a b || leI b a) = true := fun a b => by simp only [leI, Bool.or_eq_true, decide_eq_true_eq]; exact Int.le_total a b
  refine List.Perm.eq_of_pairwise (le := fun a b => leI a b = true) (fun a b _ _ h1 h2 => ?_) (List.pairwise_mergeSort tr to l) ((isort_pw m).imp fun h => decide_eq_true h) (((List.mergeSort_perm l leI).trans h).trans (isort_perm m).symm)
  simp only [leI, decide_eq_true_eq] at h1 h2
  exact Int.le_antisymm h1 h2
theorem foldIns_perm {H : Type} : ∀ l : List (Lit × DataW H), (l.foldr DataW.insert []).Perm l
  | [] => List.Perm.refl _
  | x :: r => by
    have ins : ∀ l : List (Lit × DataW H), (DataW.insert x l).Perm (x :: l) := by
      intro l
      induction l with
      | nil => exact List.Perm.refl _
      | cons y l ih =>
        unfold DataW.insert
        split
        · exact List.Perm.refl _
        · exact (ih.cons y).trans (List.Perm.swap x y l)
    exact (ins _).trans ((foldIns_perm r).cons x)

theorem srt_of {P : Program} {ρk ρs ρo : Go.Shelf.Ren} (Lk : SlLaysZI.n7 P ρk) (Ls : SlLaysZI.n6 P ρs) (Lo : SlLaysM.n5 P ρo) (h9 : ρs.f 9 = ρo.f 5) (f6 : Go.Proofs.YtkjpakaidjpjgaaGreatDoor.Dfn.Enters P (ρs.f 6)) (e9 : Go.Proofs.YtkjpakaidjpjgaaGreatDoor.Dfn.Enters P (ρs.f 9)) (e10 : Go.Proofs.YtkjpakaidjpjgaaGreatDoor.Dfn.Enters P (ρk.f 10)) (kt : P.underlying (ρk.t 26) = some (.int .i64)) : SrtOk P (ρs.f 6) (ρk.f 10) := by
  refine ⟨f6.fn, fun W c b t es ks hc hb hes hk hnd hr hlen => ?_⟩
  let R : Value → Option (DataW Unit × List MemPlace) := fun _ => some (.lit (.bool true), [])
  have hmx : maxLen = 9223372036854775807 := rfl
  have hmb : maxBytes = 140737488355328 := rfl
  have hmem : ∀ x ∈ es.toList, ∃ k, k ∈ ks ∧ x.key = .int .i64 k ∧ x.born < ks.length := by
    intro x hx
    obtain ⟨i, hi⟩ := List.mem_iff_getElem?.1 hx
    have hil : i < ks.length := by
      have := (List.getElem?_eq_some_iff.1 hi).1
      rw [← hes]; simpa using this
    obtain ⟨e, h1, h2, h3⟩ := hk i _ (List.getElem?_eq_getElem hil)
    rw [Array.getElem?_toList, h1] at hi
    injection hi with hi
    subst hi
    exact ⟨ks[i], List.getElem_mem hil, h2, by omega⟩
  have hborn : es.toList.map (·.born) = List.range ks.length := by
    apply List.ext_getElem?
    intro i
    rcases Nat.lt_or_ge i ks.length with hi | hi
    · obtain ⟨e, h1, h2, h3⟩ := hk i _ (List.getElem?_eq_getElem hi)
      rw [List.getElem?_map, Array.getElem?_toList, h1, List.getElem?_range hi, ← h3]
      rfl
    · rw [List.getElem?_eq_none (by simp; omega), List.getElem?_eq_none (by simp; omega)]
  have hkeys : es.toList.map (·.key) = ks.map encZ := by
    apply List.ext_getElem?
    intro i
    rcases Nat.lt_or_ge i ks.length with hi | hi
    · obtain ⟨e, h1, h2, h3⟩ := hk i _ (List.getElem?_eq_getElem hi)
      rw [List.getElem?_map, Array.getElem?_toList, h1, List.getElem?_map, List.getElem?_eq_getElem hi]
      simp [h2]
    · rw [List.getElem?_eq_none (by simp; omega), List.getElem?_eq_none (by simp; omega)]
  have hwf : ∀ k ∈ ks, (Lit.int .i64 k).wf = true := by
    intro k hk'
    have := hr k hk'
    simp only [inI64, Bool.and_eq_true, decide_eq_true_eq] at this
    simp only [Lit.wf, Bool.and_eq_true, decide_eq_true_eq]
    exact this
  have hrd : ∀ x ∈ es.toList, ∀ k, x.key = .int .i64 k → k ∈ ks → WideElems.rd P (ρk.t 26) R x = some (.int .i64 k, .lit (.bool true)) := by
    intro x hx k hxk hkm
    have   := WideElems.rd_mk (P := P) (k := ρk.t 26) (R := R) (key := x.key) (val := x.val) (born := x.born) (kl := .int .i64 k) (yv := (.lit (.bool true), [])) (by rw [hxk]; exact Maps.keyOf_int_mk kt (hwf k hkm)) rfl
    exact this
  have hrg : es.toList.map (WideElems.rg P (ρk.t 26) R) = ks.map fun k => (.int .i64 k, .lit (.bool true)) := by
    apply List.ext_getElem?
    intro i
    rcases Nat.lt_or_ge i ks.length with hi | hi
    · obtain ⟨e, h1, h2, h3⟩ := hk i _ (List.getElem?_eq_getElem hi)
      have hm : e ∈ es.toList := by
        apply List.mem_of_getElem? (i := i)
        rw [Array.getElem?_toList]
        exact h1
      rw [List.getElem?_map, Array.getElem?_toList, h1, List.getElem?_map, List.getElem?_eq_getElem hi]
      simp only [Option.map_some]
      rw [WideElems.rg_of (hrd e hm _ h2 (List.getElem_mem hi))]
    · rw [List.getElem?_eq_none (by simp; omega), List.getElem?_eq_none (by simp; omega)]
  have hown : W.ownsMap P (ρk.t 26) R b ks.length (.map ((es.toList.map (WideElems.rg P (ρk.t 26) R)).foldr DataW.insert [])) := by
    refine ⟨es, ks.length, hb, ⟨by rw [hes, hmx]; omega, ⟨fun x hx => ?_, by rw [hborn]; exact List.nodup_range, ?_⟩, fun x hx => ?_⟩, by omega, rfl⟩
    · obtain ⟨k, _, _, h⟩ := hmem x hx
      exact h
    · rw [hkeys]
      exact List.Pairwise.map _ (fun x y hne h => hne (encZ_inj h)) hnd
    · obtain ⟨k, h1, h2, _⟩ := hmem x hx
      exact ⟨_, hrd x hx k h2 h1⟩
  have hD : (intKeys (DataW.map (H := Unit) ((es.toList.map (WideElems.rg P (ρk.t 26) R)).foldr DataW.insert []))).Perm ks := by
    show (((es.toList.map (WideElems.rg P (ρk.t 26) R)).foldr DataW.insert []).map fun p => Go.intOf p.1).Perm ks
    refine ((foldIns_perm _).map _).trans ?_
    rw [hrg, List.map_map]
    refine List.Perm.of_eq ?_
    conv => rhs; rw [← List.map_id ks]
    rfl
  have hlen2 : Maps.size (DataW.map (H := Unit) ((es.toList.map (WideElems.rg P (ρk.t 26) R)).foldr DataW.insert [])) = ks.length := by
    have : Maps.size (DataW.map (H := Unit) ((es.toList.map (WideElems.rg P (ρk.t 26) R)).foldr DataW.insert [])) = ((es.toList.map (WideElems.rg P (ρk.t 26) R)).foldr DataW.insert []).length := rfl
    rw [this, length_sorted, hrg, List.length_map]
  have hcell : W.cell? ⟨c, 0, none⟩ = some (.map (some b)) := by rw [cell_at hc]; rfl
  have hcl : c < W.heap.size := (Array.getElem?_eq_some_iff.1 hc).1
  have hseq := AnyZI.keys_gives (ρ := ρk) { Lk with } Fence.wide 2 trivial rfl (by omega) c b ks.length _ W hcl hcell hown
  have hsort : AnyZI.SortsIn P ρs Fence.wide 4 := ⟨fun blk off cap ss W hH hblk hsz => by rw [h9]; exact callsIn_wide.2 (AnyM.slices_Sort_int Lo blk off cap ss W hH hblk hsz), fun p cap W => by rw [h9]; exact callsIn_wide.2 (AnyM.slices_Sort_int_none Lo p cap W)⟩
  have cS := AnyZI.sorted_in Ls Fence.wide 5 trivial trivial trivial trivial rfl (by omega) hsort (fun args w => e9.run args w) (ρk.f 10) #[.pointer (some ⟨c, 0, none⟩)] trivial (fun args w => e10.run args w) _ ks.length (by rw [hmx]; omega) (by rw [hmb] at hlen; exact hlen) W (by rw [hlen2] at hseq; exact hseq)
  refine ((callsIn_wide (n := 5)).1 cS).mono ?_
  rintro e W' ⟨v, ss, rfl, hS, hrow, hnil, hbel⟩
  have hp : ss.Perm ks := hS.trans hD
  have hl : ss.length = ks.length := hp.length_eq
  refine ⟨v, rfl, hbel, ?_⟩
  rcases hrow.2 with ⟨hv, h0⟩ | ⟨q, cap, cur, rfl, g1, g2, g3, g4, g5, g6⟩
  · exact .inl ⟨hv, List.eq_nil_of_length_eq_zero (by omega)⟩
  · refine .inr ⟨q, cap, cur, _, by rw [hl], g1, g2, by omega, by omega, ?_⟩
    rw [← hl, ← Nat.mul_one ss.length, g6]
    have := isort_eq hp
    rw [← this]
end Go.Proofs.YtkjpakaidjpjgaaGreatDoor.Dfn
