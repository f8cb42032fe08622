
/- The pure law WorldInts. -/
import Derived.Test.YtdokfjkihjkcmaaGreatDoorDenPa
namespace Go.Proofs.YtdokfjkihjkcmaaGreatDoor.Den
open Go
set_option linter.unusedVariables false
set_option linter.unusedSimpArgs false
set_option linter.unusedSectionVars false
set_option maxRecDepth 100000

abbrev ConfI : Type := Int × Int × Int × Int × Int × Unit
abbrev MutI : Type := (List Val) × Int × (Int × Int × Val) × Int × Val × (List Int) × Unit
abbrev WrldI : Type := ConfI × Heap × (List MutI) × Marker × Int × Bool × Int × (List ConfI) × Unit
def mayI (c : ConfI) : Prop := 1 ≤ c.1 ∧ c.1 ≤ 16 ∧ 1 ≤ c.2.1 ∧ c.2.1 ≤ 8 ∧ 1 ≤ c.2.2.1 ∧ c.2.2.1 ≤ 8 ∧ 0 ≤ c.2.2.2.1 ∧ c.2.2.2.1 ≤ 16 ∧ 0 ≤ c.2.2.2.2.1 ∧ c.2.2.2.2.1 ≤ 8
instance (c : ConfI) : Decidable (mayI c) := by unfold mayI; infer_instance
theorem withinI_eq (n a b : Int) : cycle_within (n, a, b, ()) = some (decide (a ≤ n ∧ n ≤ b), ()) := by
  simp only [cycle_within, cycle_within_r, Bool.cond_decide]
  by_cases h1 : n ≥ a
  · rw [if_pos h1]; simp [show a ≤ n from h1]
  · rw [if_neg h1]; simp [show ¬ a ≤ n from h1]
theorem cycleMayI_eq (c : ConfI) : cycle_May (c, ()) = some (decide (mayI c), ()) := by
  simp only [cycle_May, cycle_May_r, withinI_eq, Option.bind_some, Bool.cond_decide]
  repeat' split
  all_goals first
    | exact congrArg (fun b => some (b, ())) (decide_eq_decide.2 (by unfold mayI; omega))
    | exact congrArg (fun b => some (b, ())) (decide_eq_false (p := mayI c) (by unfold mayI; omega)).symm
theorem mayI_eq (c : ConfI) : r20_May (c, ()) = some (decide (mayI c), ()) := by
  simp only [r20_May, r20_May_r, Bool.cond_decide]
  repeat' split
  all_goals first
    | exact congrArg (fun b => some (b, ())) (decide_eq_decide.2 (by unfold mayI; omega))
    | exact congrArg (fun b => some (b, ())) (decide_eq_false (p := mayI c) (by unfold mayI; omega)).symm
theorem awakeI : w22_awake () = some (true, ()) := by kernel_rfl

/-! ### the worlds of such runs -/
def valI (x : Int) : Val := (1, x, ())
def mtI (s : List Int) : MutI := (s.map valI, 0, (0, 0, 0, 0, ()), 0, (0, 0, ()), [-1, -1, -1, -1], ())
def mzI : MutI := ([], 0, (0, 0, 0, 0, ()), 0, (0, 0, ()), List.replicate 4 0, ())
def frsI (p : Nat) : Heap := (List.replicate (32 * p) 0, List.replicate p (0, 0, 0, ()), false, ())
def wI (c : ConfI) (S : List (List Int)) : WrldI := (c, frsI c.1.toNat, S.map mtI, ((0, [], ()), [], [], 0, 0, 0, false, ()), 0, false, 0, [], ())
theorem newHI {p : Nat} (h1 : 1 ≤ p) (h2 : p ≤ 16) : heap_New ((p : Int), ()) = some (frsI p, 0, ()) := by
  simp only [heap_New, heap_New_r, arena_New, arena_New_r, Bool.cond_decide, ibne, ibeq, if_true]
  rw [if_neg (by omega), if_neg (by omega), wi64_id (by omega) (by omega), if_pos (by omega), if_pos (by omega)]
  simp only [Option.bind_some, Int.toNat_natCast]
  rw [if_neg (by simp), if_pos (by omega), if_pos (by omega)]
  rw [show ((p : Int) * 32).toNat = 32 * p by omega]
  rfl
theorem newI_l0 (c : ConfI) {n : Nat} (hn : n ≤ 1000) (b : Bool × Unit) (ws : List Int) (ss : List Span) :
    world_New_l0 ((n : Int), 0, (0, 0, 0, 0, 0, ()), (false, ()), 0, (), (0, 0, 0, false, ()), 0, false, 0, (), c, b, 0, (), (0, 0, 0, false, ()), 0, false, 0, (), ws, ss, [], ()) =
      some (.out ((0, 0, 0, 0, 0, ()), (false, ()), 0, (), (0, 0, 0, false, ()), 0, false, 0, (), c, b, 0, (), (0, 0, 0, false, ()), 0, false, 0, (), ws, ss, List.replicate n (mtI []), ())) := by
  unfold world_New_l0
  refine iterL_run n (fun i => ((n : Int), (i : Int), (0, 0, 0, 0, 0, ()), (false, ()), 0, (), (0, 0, 0, false, ()), 0, false, 0, (), c, b, 0, (), (0, 0, 0, false, ()), 0, false, 0, (), ws, ss, List.replicate i (mtI []), ())) (fun i hi => ?_) ?_ (by omega) rfl
  · simp only [world_New_s0, world_New_s0r, Bool.cond_decide, List.length_replicate]
    rw [if_pos (show (i : Int) < (n : Int) by omega), if_pos (show (i + 1) * 120 ≤ 140737488355328 by omega), wi64_id (n := (i : Int) + 1) (by omega) (by omega), List.replicate_succ']
    rfl
  · simp only [world_New_s0, world_New_s0r, Bool.cond_decide]
    rw [if_neg (show ¬ (n : Int) < (n : Int) by omega)]
theorem newI {c : ConfI} (hc : mayI c) : world_New (c, ()) = some (wI c (List.replicate c.2.1.toNat []), 0, ()) := by
  obtain ⟨c1, c2, c3, c4, -⟩ := id hc
  obtain ⟨p, hp⟩ := Int.eq_ofNat_of_zero_le (show 0 ≤ c.1 by omega)
  obtain ⟨n, hn⟩ := Int.eq_ofNat_of_zero_le (show 0 ≤ c.2.1 by omega)
  have hN : heap_New (c.1, ()) = some (frsI p, 0, ()) := by rw [hp]; exact newHI (by omega) (by omega)
  have hl := newI_l0 c (n := n) (by omega) ((frsI p).2.2.1, ()) (frsI p).1 (frsI p).2.1
  rw [← hn] at hl
  have ep : c.1.toNat = p := by omega
  have en : c.2.1.toNat = n := by omega
  simp only [world_New, world_New_r, cycleMayI_eq, decide_eq_true hc, Option.bind_some, Bool.not_true, cond_false, hN, hl]
  unfold wI
  rw [ep, en, List.map_replicate]

/-! ### a turn -/
theorem popI {st : List Val} (hl : st.length ≤ 8) : ∃ v, roots_Pop (st, ()) = some (st.take (st.length - 1), v, if st.length = 0 then 3 else 0, ()) := by
  simp only [roots_Pop, roots_Pop_r, Bool.cond_decide]
  rw [wi64_id (by omega) (by omega)]
  by_cases h : st.length = 0
  · rw [if_pos (by omega), List.take_of_length_le (by omega), if_pos h]
    exact ⟨_, rfl⟩
  · have e : ((st.length : Int) - 1).toNat - 0 = st.length - 1 := by omega
    rw [if_neg (by omega), if_pos (by omega), if_pos (by omega), e, List.drop_zero]
    simp only [slices_Clone_api_Value, cloneF]
    rw [decide_eq_true (by rw [List.length_take]; omega)]
    simp only [cond_true, Option.bind_some]
    rw [if_pos (by omega), if_pos (by omega), if_neg h]
    exact ⟨_, rfl⟩
theorem pushI {st : List Val} (hl : st.length ≤ 8) (room : Int) (hr : ¬ room ≤ st.length) (v : Val) : roots_Push (st, room, v, ()) = some (st ++ [v], 0, ()) := by
  simp only [roots_Push, roots_Push_r, slices_Clone_api_Value, cloneF, Bool.cond_decide]
  rw [if_pos (show st.length * 16 ≤ 140737488355328 by omega)]
  simp only [Option.bind_some]
  rw [if_neg (by omega), if_pos (by omega)]
theorem cloneMI {l : List MutI} (h : l.length ≤ 8) : slices_Clone_api_Mutator (l, ()) = some (l, ()) := by
  simp only [slices_Clone_api_Mutator, cloneF, Bool.cond_decide]
  rw [if_pos (by omega)]
theorem check4I (h : Heap) (st : List Val) (room : Int) {A : Int} (h0 : 0 ≤ A) (h1 : A ≤ 1099511627776) : op_Check (h, st, room, (4, A, 0, 0, ()), ()) = some (if room ≤ st.length then 5 else 0, ()) := by
  have ho : op_own (h, st, (4, A, 0, 0, ()), ()) = some (0, ()) := by
    simp only [op_own, op_own_r, op_within, op_within_r, ibeq, Bool.cond_decide]
    rw [if_neg (by decide), if_pos trivial, if_neg (by omega), if_neg (by omega)]
    rfl
  have hp : op_Pushes (4, ()) = some (true, ()) := by kernel_rfl
  simp only [op_Check, op_Check_r, ho, hp, Option.bind_some, ibeq, Bool.cond_decide, if_true, cond_true]
  by_cases c : room ≤ st.length
  · rw [if_pos c, if_pos c]
  · rw [if_neg c, if_neg c]
theorem check5I (h : Heap) {st : List Val} (hl : st.length ≤ 8) (room : Int) (A : Int) : op_Check (h, st, room, (5, A, 0, 0, ()), ()) = some (if st.length = 0 then 3 else 0, ()) := by
  obtain ⟨v, hv⟩ := popI hl
  have ho : op_own (h, st, (5, A, 0, 0, ()), ()) = some (if st.length = 0 then 3 else 0, ()) := by
    simp only [op_own, op_own_r, ibeq, Bool.cond_decide, hv, Option.bind_some]
    rw [if_neg (by decide), if_neg (by decide), if_neg (by decide), if_neg (by decide), if_neg (by decide), if_pos trivial]
  have hp : op_Pushes (5, ()) = some (false, ()) := by kernel_rfl
  simp only [op_Check, op_Check_r, ho, hp, Option.bind_some, ibeq, Bool.cond_decide, cond_false]
  split <;> rfl
theorem getMI {S : List (List Int)} {k : Nat} (hk : k < S.length) (z : MutI) : (S.map mtI).getD k z = mtI (S.getD k []) := by
  rw [get_d _ _ _ (by rw [List.length_map]; exact hk), List.getElem_map, get_d _ _ _ hk]
theorem setMI (S : List (List Int)) (k : Nat) (t : List Int) : (S.map mtI).set k (mtI t) = (S.set k t).map mtI := by rw [List.map_set]
theorem selfI {α : Type} {l : List α} {k : Nat} (z : α) (hk : k < l.length) : l.set k (l.getD k z) = l := by
  rw [get_d _ _ _ hk, List.set_getElem_self]
section
variable {c : ConfI} {S : List (List Int)} {k : Nat} (hk : k < S.length) (h8 : S.length ≤ 8) (hs : (S.getD k []).length ≤ 8)
include hk h8 hs
theorem pickI {o : Int × Int × Val} {t : List Int} {e : Int} {v : Val} (hT : mut_Turn (wI c S, (k : Int), o, ()) = some (wI c (S.set k t), ((k : Int), 2, e, v, ()), ())) : world_Pick (wI c S, ((k : Int), o, ()), ()) = some (wI c (S.set k t), ((k : Int), 2, e, v, ()), ()) := by
  have q1 : ¬ (k : Int) = -1 := by omega
  have q2 : ¬ (k : Int) = -2 := by omega
  have q3 : (k : Int) ≥ 0 := by omega
  have q4 : (k : Int) < ((wI c S).2.2.1.length : Int) := by
    show (k : Int) < ((S.map mtI).length : Int)
    rw [List.length_map]; omega
  simp only [world_Pick, world_Pick_0, world_Pick_0_r, world_Pick_1, world_Pick_1_r, world_Pick_2, world_Pick_2_r, world_whose_0, world_whose_0_r, world_whose_1, world_whose_1_r, world_whose_2, world_whose_2_r, ibeq, Bool.cond_decide, if_neg q1, if_neg q2, if_pos q3, if_pos q4, Option.bind_some, Option.bind_none, orE, hT]
theorem turn4I {A : Int} (h0 : 0 ≤ A) (h1 : A ≤ 1099511627776) : mut_Turn (wI c S, (k : Int), (4, A, 0, 0, ()), ()) =
    some (if c.2.2.1 ≤ (S.getD k []).length then (wI c (S.set k (S.getD k [])), ((k : Int), 2, 5, (0, 0, ()), ()), ()) else (wI c (S.set k (S.getD k [] ++ [A])), ((k : Int), 2, 0, (1, A, ()), ()), ())) := by
  have q1 : (0 : Int) ≤ (k : Int) := by omega
  have q2 : (k : Int) < ((wI c S).2.2.1.length : Int) := by
    show (k : Int) < ((S.map mtI).length : Int)
    rw [List.length_map]; omega
  have e0 : ∀ z, (wI c S).2.2.1.getD k z = mtI (S.getD k []) := fun z => getMI hk z
  have e1 : (mtI (S.getD k [])).2.1 = 0 := rfl
  have hl : ((mtI (S.getD k [])).1).length = (S.getD k []).length := List.length_map _
  have hck := check4I (wI c S).2.1 (mtI (S.getD k [])).1 (wI c S).1.2.2.1 h0 h1
  have hcl : slices_Clone_api_Mutator ((wI c S).2.2.1, ()) = some ((wI c S).2.2.1, ()) := cloneMI (by show (S.map mtI).length ≤ 8; rw [List.length_map]; exact h8)
  simp only [mut_Turn, mut_Turn_r, Bool.cond_decide, ibeq, ibne, if_pos q1, if_pos q2, Int.toNat_natCast, e0, e1, if_true, hck, Option.bind_some, hcl]
  rw [hl]
  by_cases c5 : c.2.2.1 ≤ (S.getD k []).length
  · rw [if_pos c5, if_pos (show (wI c S).1.2.2.1 ≤ (S.getD k []).length from c5), if_pos (by decide)]
    have := setMI S k (S.getD k [])
    unfold wI
    rw [← this]
    rfl
  · rw [if_neg c5, if_neg (show ¬ (wI c S).1.2.2.1 ≤ (S.getD k []).length from c5), if_neg (by decide), if_neg (by decide), pushI (by rw [hl]; exact hs) _ (by rw [hl]; exact c5)]
    simp only [Option.bind_some]
    have := setMI S k (S.getD k [] ++ [A])
    unfold wI
    rw [← this]
    unfold mtI
    rw [List.map_append]
    rfl
theorem turn5I (A : Int) : mut_Turn (wI c S, (k : Int), (5, A, 0, 0, ()), ()) =
    some (if (S.getD k []).length = 0 then (wI c (S.set k (S.getD k [])), ((k : Int), 2, 3, (0, 0, ()), ()), ()) else (wI c (S.set k ((S.getD k []).take ((S.getD k []).length - 1))), ((k : Int), 2, 0, (0, 0, ()), ()), ())) := by
  have q1 : (0 : Int) ≤ (k : Int) := by omega
  have q2 : (k : Int) < ((wI c S).2.2.1.length : Int) := by
    show (k : Int) < ((S.map mtI).length : Int)
    rw [List.length_map]; omega
  have e0 : ∀ z, (wI c S).2.2.1.getD k z = mtI (S.getD k []) := fun z => getMI hk z
  have e1 : (mtI (S.getD k [])).2.1 = 0 := rfl
  have hl : ((mtI (S.getD k [])).1).length = (S.getD k []).length := List.length_map _
  have hck := check5I (wI c S).2.1 (st := (mtI (S.getD k [])).1) (by rw [hl]; exact hs) (wI c S).1.2.2.1 A
  obtain ⟨v, hv⟩ := popI (st := (mtI (S.getD k [])).1) (by rw [hl]; exact hs)
  have hcl : slices_Clone_api_Mutator ((wI c S).2.2.1, ()) = some ((wI c S).2.2.1, ()) := cloneMI (by show (S.map mtI).length ≤ 8; rw [List.length_map]; exact h8)
  simp only [mut_Turn, mut_Turn_r, Bool.cond_decide, ibeq, ibne, if_pos q1, if_pos q2, Int.toNat_natCast, e0, e1, if_true, hck, Option.bind_some, hcl, hv]
  rw [hl]
  by_cases c5 : (S.getD k []).length = 0
  · rw [if_pos c5, if_pos c5, if_pos (by decide)]
    have := setMI S k (S.getD k [])
    unfold wI
    rw [← this]
    rfl
  · rw [if_neg c5, if_neg c5, if_neg (by decide), if_neg (by decide), if_neg (by decide)]
    have := setMI S k ((S.getD k []).take ((S.getD k []).length - 1))
    unfold wI
    rw [← this]
    unfold mtI
    rw [List.map_take]
end

/-! ### all turns -/
def who (c : ConfI) (v : List Int) (i : Nat) : Nat := ((v.getD i 0).tmod c.2.1).toNat
def stpI (c : ConfI) (v : List Int) (i : Nat) (S : List (List Int)) : List (List Int) :=
  if v.getD i 0 > 150 then S.set (who c v i) ((S.getD (who c v i) []).take ((S.getD (who c v i) []).length - 1))
  else if c.2.2.1 ≤ (S.getD (who c v i) []).length then S else S.set (who c v i) (S.getD (who c v i) [] ++ [(i : Int)])
def runI (c : ConfI) (v : List Int) : Nat → List (List Int)
  | 0 => List.replicate c.2.1.toNat []
  | i + 1 => stpI c v i (runI c v i)
theorem stpI_len (c : ConfI) (v : List Int) (i : Nat) (S : List (List Int)) : (stpI c v i S).length = S.length := by
  unfold stpI
  split
  · exact List.length_set
  · split
    · rfl
    · exact List.length_set
theorem runI_len (c : ConfI) (v : List Int) : ∀ i, (runI c v i).length = c.2.1.toNat
  | 0 => List.length_replicate
  | i + 1 => (stpI_len c v i _).trans (runI_len c v i)
theorem getI_le {S : List (List Int)} (h : ∀ s ∈ S, s.length ≤ 8) (k : Nat) : (S.getD k []).length ≤ 8 := by
  by_cases hk : k < S.length
  · rw [get_d _ _ _ hk]; exact h _ (List.getElem_mem hk)
  · rw [List.getD_eq_getElem?_getD, List.getElem?_eq_none (by omega)]
    exact Nat.zero_le _
theorem runI_8 {c : ConfI} (hc : c.2.2.1 ≤ 8) (v : List Int) : ∀ i, ∀ s ∈ runI c v i, s.length ≤ 8
  | 0, s, h => by rw [List.eq_of_mem_replicate h]; exact Nat.zero_le _
  | i + 1, s, h => by
    have ih := runI_8 hc v i
    have hg := getI_le ih (who c v i)
    have h : s ∈ stpI c v i (runI c v i) := h
    unfold stpI at h
    split at h
    · rcases List.mem_or_eq_of_mem_set h with h | h
      · exact ih s h
      · rw [h, List.length_take]; omega
    · split at h
      · exact ih s h
      · rename_i hr
        rcases List.mem_or_eq_of_mem_set h with h | h
        · exact ih s h
        · rw [h, List.length_append, List.length_singleton]; omega
def dI (S : List (List Int)) : List ((List Int) × Unit) := S.map fun s => (s, ())
theorem dI_len (S : List (List Int)) : (dI S).length = S.length := List.length_map _
theorem dI_get {S : List (List Int)} {k : Nat} (hk : k < S.length) : (dI S).getD k ([], ()) = (S.getD k [], ()) := by
  unfold dI
  rw [get_d _ _ _ (by rw [List.length_map]; exact hk), List.getElem_map, get_d _ _ _ hk]
theorem dI_set (S : List (List Int)) (k : Nat) (t : List Int) : (dI S).set k (t, ()) = dI (S.set k t) := by
  show (S.map _).set k _ = (S.set k t).map _
  rw [List.map_set]
section
variable {c : ConfI} (hc : mayI c) {v : List Int} (hv : ∀ x ∈ v, 0 ≤ x ∧ x < 256) (hl : v.length ≤ 200)
include hc hv hl
theorem whoI {i : Nat} (hi : i < v.length) : (wi64 (v.getD i 0)).tmod c.2.1 = ((who c v i : Nat) : Int) ∧ who c v i < c.2.1.toNat := by
  obtain ⟨c1, c2, c3, c4, -⟩ := id hc
  have hx := hv _ (List.getElem_mem hi)
  have e : v.getD i 0 = v[i] := get_d _ _ _ hi
  have h1 : 0 ≤ (v.getD i 0).tmod c.2.1 := Int.tmod_nonneg _ (by rw [e]; exact hx.1)
  have h2 : (v.getD i 0).tmod c.2.1 < c.2.1 := Int.tmod_lt_of_pos _ (by omega)
  rw [wi64_id (by rw [e]; omega) (by rw [e]; omega)]
  unfold who
  omega
theorem stepI {i : Nat} (hi : i < v.length) : w22_WorldInts_s0 (v, (i : Int), c, wI c (runI c v i), dI (runI c v i), ()) = some (.next (v, ((i + 1 : Nat) : Int), c, wI c (runI c v (i + 1)), dI (runI c v (i + 1)), ())) := by
  obtain ⟨c1, c2, c3, c4, c5, c6, -⟩ := id hc
  obtain ⟨hw, hwl⟩ := whoI hc hv hl hi
  have hS := runI_len c v i
  have h8 := runI_8 c6 v i
  have hk : who c v i < (runI c v i).length := by rw [hS]; exact hwl
  have hs := getI_le h8 (who c v i)
  have en : stpI c v i (runI c v i) = runI c v (i + 1) := rfl
  generalize runI c v i = S at *
  generalize hT : runI c v (i + 1) = T at *
  have p1 : (i : Int) < (v.length : Int) := by omega
  have p2 : (0 : Int) ≤ (i : Int) := by omega
  have p3 : (0 : Int) ≤ ((who c v i : Nat) : Int) := by omega
  have p4 : ((who c v i : Nat) : Int) < ((dI S).length : Int) := by rw [dI_len]; omega
  have p5 : ¬ c.2.1 = 0 := by omega
  have p6 : wi64 ((i : Int) + 1) = ((i + 1 : Nat) : Int) := by rw [wi64_id (by omega) (by omega)]; omega
  have p7 : Nat.blt (who c v i) (dI S).length = true := by rw [dI_len]; simpa [Nat.blt_eq] using hk
  have p8 : Nat.beq (who c v i) (who c v i) = true := by simp
  have u4 := turn4I hk (by omega) hs (c := c) (A := (i : Int)) (by omega) (by omega)
  have u5 := turn5I hk (by omega) hs (c := c) (i : Int)
  simp only [w22_WorldInts_s0, w22_WorldInts_s0r, hw, Bool.cond_decide, ibeq, ibne, if_pos p1, if_pos p2, if_pos p3, if_pos p4, if_neg p5, p6, p7, p8, cond_true, Int.toNat_natCast, dI_get hk]
  unfold stpI at en
  by_cases hp : v.getD i 0 > 150
  · rw [if_pos hp] at en
    rw [if_pos hp]
    by_cases h0 : (S.getD (who c v i) []).length = 0
    · rw [if_pos h0] at u5
      rw [pickI hk (by omega) hs u5]
      have e1 : (S.getD (who c v i) []).take ((S.getD (who c v i) []).length - 1) = S.getD (who c v i) [] := List.take_of_length_le (by omega)
      rw [e1, selfI _ hk] at en
      rw [selfI _ hk]
      subst en
      simp only [Option.bind_some, h0]
      rfl
    · rw [if_neg h0] at u5
      rw [pickI hk (by omega) hs u5]
      have e2 : wi64 (((S.getD (who c v i) []).length : Int) - 1) = (((S.getD (who c v i) []).length - 1 : Nat) : Int) := by rw [wi64_id (by omega) (by omega)]; omega
      have g1 : ((S.getD (who c v i) []).length : Int) > 0 := by omega
      simp only [Option.bind_some, e2, decide_eq_true g1, decide_true, beq_self_eq_true, Bool.not_true, cond_false, if_true, not_true, if_false]
      rw [if_pos (by omega), if_pos (by omega), Int.toNat_natCast, dI_set, en]
  · rw [if_neg hp] at en
    rw [if_neg hp]
    by_cases hr : c.2.2.1 ≤ (S.getD (who c v i) []).length
    · rw [if_pos hr] at u4 en
      rw [pickI hk (by omega) hs u4, selfI _ hk]
      subst en
      have g1 : ¬ ((S.getD (who c v i) []).length : Int) < c.2.2.1 := by omega
      simp only [Option.bind_some, decide_eq_false g1]
      rfl
    · rw [if_neg hr] at u4 en
      rw [pickI hk (by omega) hs u4]
      have g1 : ((S.getD (who c v i) []).length : Int) < c.2.2.1 := by omega
      simp only [Option.bind_some, decide_eq_true g1, decide_true, beq_self_eq_true, Bool.not_true, cond_false, if_true, not_true, if_false, List.take_length]
      rw [if_pos (by omega), dI_set, en]
theorem loop0I : w22_WorldInts_l0 (v, 0, c, wI c (runI c v 0), dI (runI c v 0), ()) = some (.out (c, wI c (runI c v v.length), dI (runI c v v.length), ())) := by
  unfold w22_WorldInts_l0
  refine iterL_run v.length (fun i => (v, (i : Int), c, wI c (runI c v i), dI (runI c v i), ())) (fun i hi => stepI hc hv hl hi) ?_ (by omega) rfl
  simp only [w22_WorldInts_s0, w22_WorldInts_s0r, Bool.cond_decide]
  rw [if_neg (show ¬ (v.length : Int) < (v.length : Int) by omega)]
end
/-! ### what is left -/
theorem loop1I {c : ConfI} {S : List (List Int)} {k : Nat} (hk : k < S.length) (hs : (S.getD k []).length ≤ 8) (w : WrldI) :
    w22_WorldInts_l1 ((k : Int), (S.getD k []).map valI, 0, c, w, dI S, ()) = some (.out ((k : Int), c, w, dI S, ())) := by
  unfold w22_WorldInts_l1
  refine iterL_run (S.getD k []).length (fun i => ((k : Int), (S.getD k []).map valI, (i : Int), c, w, dI S, ())) (fun i hi => ?_) ?_ (by omega) rfl
  · have p1 : (i : Int) < (((S.getD k []).map valI).length : Int) := by rw [List.length_map]; omega
    have p2 : (0 : Int) ≤ (i : Int) := by omega
    have p3 : (0 : Int) ≤ (k : Int) := by omega
    have p4 : (k : Int) < ((dI S).length : Int) := by rw [dI_len]; omega
    have p5 : (i : Int) < ((S.getD k []).length : Int) := by omega
    have p6 : wi64 ((i : Int) + 1) = ((i + 1 : Nat) : Int) := by rw [wi64_id (by omega) (by omega)]; omega
    have p7 : Nat.blt k (dI S).length = true := by rw [dI_len]; simpa [Nat.blt_eq] using hk
    have e1 : ((S.getD k []).map valI).getD i (0, 0, ()) = valI ((S.getD k []).getD i 0) := by
      rw [get_d _ _ _ (by rw [List.length_map]; exact hi), List.getElem_map, get_d _ _ _ hi]
    simp only [w22_WorldInts_s1, w22_WorldInts_s1r, Bool.cond_decide, if_pos p1, if_pos p2, if_pos p3, if_pos p4, Int.toNat_natCast, dI_get hk, if_pos p5, p7, cond_true, e1, p6]
    simp [valI]
  · simp only [w22_WorldInts_s1, w22_WorldInts_s1r, Bool.cond_decide]
    rw [if_neg (show ¬ ((S.getD k []).length : Int) < (((S.getD k []).map valI).length : Int) by rw [List.length_map]; omega)]
theorem loop2I {c : ConfI} (hc : mayI c) {S : List (List Int)} (hn : S.length = c.2.1.toNat) (h8 : ∀ s ∈ S, s.length ≤ 8) : w22_WorldInts_l2 (0, c, wI c S, dI S, ()) = some (.out ()) := by
  obtain ⟨c1, c2, c3, c4, c5, c6, -⟩ := id hc
  unfold w22_WorldInts_l2
  refine iterL_run S.length (fun i => ((i : Int), c, wI c S, dI S, ())) (fun k hk => ?_) ?_ (by omega) rfl
  · have p1 : (k : Int) < c.2.1 := by omega
    have p2 : (0 : Int) ≤ (k : Int) := by omega
    have p3 : (k : Int) < ((wI c S).2.2.1.length : Int) := by
      show (k : Int) < ((S.map mtI).length : Int)
      rw [List.length_map]; omega
    have p4 : (k : Int) < ((dI S).length : Int) := by rw [dI_len]; omega
    have p6 : wi64 ((k : Int) + 1) = ((k + 1 : Nat) : Int) := by rw [wi64_id (by omega) (by omega)]; omega
    have e0 : ∀ z, (wI c S).2.2.1.getD k z = mtI (S.getD k []) := fun z => getMI hk z
    have e1 : (mtI (S.getD k [])).1 = (S.getD k []).map valI := rfl
    have hl := loop1I (c := c) hk (getI_le h8 k) (wI c S)
    simp only [w22_WorldInts_s2, w22_WorldInts_s2r, Bool.cond_decide, ibne, if_pos p1, if_pos p2, if_pos p3, if_pos p4, Int.toNat_natCast, dI_get hk, e0, e1, List.length_map, hl, Option.bind_some, p6]
    rw [if_neg (fun h => h trivial)]
  · simp only [w22_WorldInts_s2, w22_WorldInts_s2r, Bool.cond_decide]
    rw [if_neg (show ¬ (S.length : Int) < c.2.1 by omega)]
theorem worldInts_pure : ∀ x, Good (.cons cRep (.cons (.sl (.int .u8)) .nil)) x → w22_WorldInts x = some (true, ()) := by
  rintro ⟨(c : ConfI), (v : List Int), ⟨⟩⟩ ⟨gc, gv, -⟩
  simp only [w22_WorldInts, w22_WorldInts_r, awakeI, Option.bind_some, Bool.not_true, cond_false, mayI_eq, Bool.cond_decide]
  by_cases hc : mayI c
  · rw [decide_eq_true hc]
    simp only [Bool.not_true, cond_false]
    by_cases h4 : c.1 > 4
    · rw [if_pos h4]
    rw [if_neg h4]
    by_cases hl : (v.length : Int) > 200
    · rw [if_pos hl]
    rw [if_neg hl]
    obtain ⟨c1, c2, c3, c4, c5, c6, -⟩ := id hc
    have hv : ∀ x ∈ v, 0 ≤ x ∧ x < 256 := fun x hx => by
      have h : IntKind.u8.min ≤ x ∧ x ≤ IntKind.u8.max := gv.2 x hx
      have e1 : IntKind.u8.min = 0 := by decide
      have e2 : IntKind.u8.max = 255 := by decide
      omega
    have hw := loop0I hc hv (by omega)
    have h2 := loop2I hc (runI_len c v v.length) (runI_8 c6 v v.length)
    have e0 : dI (runI c v 0) = List.replicate c.2.1.toNat (([], ()) : (List Int) × Unit) := List.map_replicate ..
    rw [e0] at hw
    have e1 : wI c (runI c v 0) = wI c (List.replicate c.2.1.toNat []) := rfl
    simp only [newI hc, Option.bind_some, beq_self_eq_true, cond_true]
    rw [if_pos (show 0 ≤ c.2.1 by omega), if_pos (show c.2.1.toNat * 24 ≤ 140737488355328 by omega)]
    have e2 : ∀ W : WrldI, ((W.1, (W.2.1.1, W.2.1.2.1, W.2.1.2.2), W.2.2.1, ((W.2.2.2.1.1.1, W.2.2.2.1.1.2.1, W.2.2.2.1.1.2.2), W.2.2.2.1.2.1, W.2.2.2.1.2.2.1, W.2.2.2.1.2.2.2), W.2.2.2.2.1, W.2.2.2.2.2.1, W.2.2.2.2.2.2.1, W.2.2.2.2.2.2.2.1, W.2.2.2.2.2.2.2.2) : WrldI) = W := fun W => rfl
    rw [e2, ← e1, hw]
    simp only [Option.bind_some, h2]
  · rw [decide_eq_false hc]
    rfl
end Go.Proofs.YtdokfjkihjkcmaaGreatDoor.Den
