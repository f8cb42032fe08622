/- Pure laws: a block taken. -/
import Derived.Test.YtebdioogklmeaaaDoorDenTb
import Derived.Test.YtebdioogklmeaaaDoorDenRj
namespace Go.Proofs.YtebdioogklmeaaaDoor.Den
open Go
set_option linter.unusedVariables false
set_option linter.unusedSimpArgs false
set_option maxRecDepth 100000

theorem of_in {n : Int} (h0 : 0 ≤ n) (h1 : n ≤ 15) : ∃ k : Nat, k < 4 ∧ class_Of (n, ()) = some ((k : Int), true, ()) ∧ flotsamref04_Of (n, ()) = some ((k : Int), true, ()) ∧ n < cw k ∧ (0 < k → cw ((k : Int) - 1) ≤ n) := by
  have : ((List.range 16).all fun n => (List.range 4).any fun k => decide (class_Of ((n : Int), ()) = some ((k : Int), true, ())) && decide (flotsamref04_Of ((n : Int), ()) = some ((k : Int), true, ())) && decide ((n : Int) < cw k) && (decide (k = 0) || decide (cw ((k : Int) - 1) ≤ (n : Int)))) = true := by kernel_rfl
  obtain ⟨n, rfl⟩ := Int.eq_ofNat_of_zero_le h0
  have h := List.all_eq_true.1 this n (by simp; omega)
  obtain ⟨k, hk, h⟩ := List.any_eq_true.1 h
  simp only [Bool.and_eq_true, decide_eq_true_eq, Bool.or_eq_true] at h
  obtain ⟨⟨⟨a, b⟩, c⟩, d⟩ := h
  exact ⟨k, by simpa using hk, a, b, c, fun hk0 => d.resolve_left (by omega)⟩
theorem of_out {n : Int} (h : ¬ (0 ≤ n ∧ n ≤ 15)) : class_Of (n, ()) = some (0, false, ()) ∧ flotsamref04_Of (n, ()) = some (0, false, ()) := by
  constructor
  · have hr : class_Of_l0 (n, ([2, 4, 8, 16] : List Int), 0, ()) = some (.out ()) := by
      unfold class_Of_l0
      refine iterL_run 4 (fun i => (n, ([2, 4, 8, 16] : List Int), (i : Int), ())) (fun i hi => ?_) ?_ (by omega) rfl
      · simp only [class_Of_s0, class_Of_s0r, Bool.cond_decide, Int.toNat_natCast]
        rw [if_pos (by omega), if_pos (by omega), if_pos (by omega)]
        by_cases h0 : n ≥ 0
        · have hw : ([2, 4, 8, 16] : List Int).getD i 0 ≤ 16 := by
            obtain rfl | rfl | rfl | rfl : i = 0 ∨ i = 1 ∨ i = 2 ∨ i = 3 := by omega
            all_goals decide
          have hlt : ¬ n < ([2, 4, 8, 16] : List Int).getD i 0 := by omega
          rw [if_pos h0, if_neg hlt, wi64_id (by omega) (by omega)]; rfl
        · rw [if_neg h0, wi64_id (by omega) (by omega)]; rfl
      · simp only [class_Of_s0, class_Of_s0r, Bool.cond_decide]
        rw [if_neg (by omega)]
    simp only [class_Of, class_Of_r, hr, Option.bind_some]
  · simp only [flotsamref04_Of, flotsamref04_Of_r, Bool.cond_decide]
    by_cases h0 : n < 0
    · rw [if_pos h0]
    · rw [if_neg h0, if_pos (by omega)]

def setC (c : List (List Int)) (m k : Nat) (p : Int) : List (List Int) := c.set m ((c.getD m z4).set k p)
theorem clone32_eq {c : List (List Int)} (h : c.length ≤ 1000) : slices_Clone_A4_int (c, ()) = some (c, ()) := by
  simp only [slices_Clone_A4_int, cloneF, Bool.cond_decide]
  rw [if_pos (by omega)]
theorem take11_l0 (c : List (List Int)) (hl : c.length ≤ 1000) (m : Nat) (hm : m < c.length) (k : Nat) (hk : k < 4) (p a : Int) (o : Bool × Unit) (g : Heap) :
    flotsamref11_Take_l0 (c, (m : Int), (k : Int), p, a, 0, o, g, [], ()) = some (.out (a, o, g, setC c m k p, ())) := by
  unfold flotsamref11_Take_l0
  refine iterL_run c.length (fun i => (c, (m : Int), (k : Int), p, a, (i : Int), o, g, (setC c m k p).take i, ())) (fun i hi => ?_) ?_ (by omega) rfl
  · simp only [flotsamref11_Take_s0, flotsamref11_Take_s0r, Bool.cond_decide, ibeq, Int.toNat_natCast]
    have hi' : i < (setC c m k p).length := by unfold setC; rw [List.length_set]; exact hi
    have ht : (setC c m k p).take (i + 1) = (setC c m k p).take i ++ [(setC c m k p)[i]] := (List.take_append_getElem hi').symm
    have hlen : ((setC c m k p).take i).length = i := by rw [List.length_take]; omega
    rw [if_pos (by omega), if_pos (by omega), if_pos (by omega)]
    by_cases e : m = i
    · subst e
      rw [if_pos rfl, if_pos (by omega), if_pos (by omega), hlen, if_pos (by omega), wi64_id (by omega) (by omega), ht]
      have : (setC c m k p)[m] = (c.getD m z4).set k p := by unfold setC; simp
      rw [this]; rfl
    · rw [if_neg (show ¬ (i : Int) = m by omega), hlen, if_pos (by omega), wi64_id (by omega) (by omega), ht]
      have : (setC c m k p)[i] = c[i] := List.getElem_set_ne e _
      rw [this, get_d _ _ _ hi]; rfl
  · simp only [flotsamref11_Take_s0, flotsamref11_Take_s0r, Bool.cond_decide]
    rw [if_neg (by omega), List.take_of_length_le (by unfold setC; rw [List.length_set]; exact Nat.le_refl _)]
theorem lay_o_in {h : Heap} (f : FormP h) (hf : FreeP h) {p n : Int} (q : layP h p n) {i : Nat} (hi : lowP (spanAt h p).2.2.1 i) : heap_Lay_o (h, p, n, ()) = some (laid h p i n, layA h p i, true, ()) := by
  obtain ⟨ip, hs, hz, n0, n1⟩ := q
  have hR := f.right _ ip.mem
  have h0 := hf _ ip.mem
  obtain ⟨j, hj, hb, hlow, t1, t2⟩ := take_in h0 (rightB_free hR h0) hs hz
  obtain rfl := hi.uniq ⟨hb, hlow⟩
  have hib := lay_low f hf ip (by omega) hb
  obtain ⟨⟨c0, c3⟩, m0, m1⟩ := lay_room f hf ip (by omega) hib
  have hn := f.n16
  have hl := f.len
  have i0 := ip.1
  have i1 := ip.2
  have hw := cw_le (spanAt h p).2.1
  have hset : p.toNat < h.2.1.length := by omega
  simp only [heap_Lay_o, heap_Lay_o_r, page_in ip, t1, class_Fields_eq, clone8_eq (show h.1.length ≤ 512 by omega), clone24_eq (show h.2.1.length ≤ 512 by omega), Option.bind_some, Bool.cond_decide, condn, cond_true, Bool.not_true, cond_false]
  simp only [show ((0 : Int), (0 : Int), (0 : Int), ()) = sz from rfl, List.length_set, getD_set_self hset]
  rw [if_pos (by omega), if_pos (show 0 ≤ (spanAt h p).2.1 ∧ (spanAt h p).2.1 < 4 by omega), if_pos (by omega), if_pos i0, if_pos i1, if_pos i0, if_pos i1]
  simp only [arena_Address, arena_Address_r, class_Blocks_eq, class_Words_eq, (put_used c0 c3 n0 n1 _).1, Option.bind_some, Bool.cond_decide]
  rw [if_neg (by omega), if_neg (by omega), if_neg (by omega), if_neg (by omega), Option.bind_some]
  dsimp only
  rw [wi64_id (n := p * 32) (by omega) (by omega), wi64_id (n := (i : Int) * cw (spanAt h p).2.1) (by omega) (by omega), wi64_id (n := p * 32 + (i : Int) * cw (spanAt h p).2.1) (by omega) (by omega), wi64_id (by omega) (by omega)]
  rw [show p * 32 + (i : Int) * cw (spanAt h p).2.1 = layA h p i by unfold layA; omega]
  have hA : 0 ≤ layA h p i ∧ layA h p i + cw (spanAt h p).2.1 ≤ h.1.length := by unfold layA; omega
  rw [show (layA h p i + cw (spanAt h p).2.1).toNat - (layA h p i).toNat = (cw (spanAt h p).2.1).toNat by omega]
  change (if 0 ≤ layA h p i then if layA h p i ≤ layA h p i + cw (spanAt h p).2.1 then if layA h p i + cw (spanAt h p).2.1 ≤ (h.1.length : Int) then if 0 ≤ layA h p i then if layA h p i < ((zer h.1 (layA h p i).toNat (cw (spanAt h p).2.1).toNat).length : Int) then some (((zer h.1 (layA h p i).toNat (cw (spanAt h p).2.1).toNat).set (layA h p i).toNat _, _, _), _, _, _) else none else none else none else none else none) = _
  have h2 := cw_pos c0 c3
  rw [if_pos (by omega), if_pos (by omega), if_pos (by omega), if_pos (by omega), zer_len (by omega), if_pos (by omega)]
  rfl

/-- What a page that is found is. -/
theorem pageF_in {h : Heap} (q : HP h) {c : List (List Int)} (r : RightP h c) {m k : Nat} (hm : m < c.length) (hk : k < 4) {p : Int} (e : pageF h c m k = (p, true, ())) :
    inP h p ∧ (((spanAt h p).1 = 1 ∧ (spanAt h p).2.2.1 ≠ 0 ∧ (spanAt h p).2.1 = k ∧ (ent c m k = p ∨ ¬ keptP c p)) ∨ (spanAt h p).1 = 0) := by
  unfold pageF at e
  split at e
  · rename_i hv
    injection e with e1 e2
    subst e1
    rcases ent_rng r hm hk with e' | e'
    · exact absurd e' hv.1
    · have ho := of_decide_eq_true hv.2
      exact ⟨e'.1, .inl ⟨ho.1, ho.2, e'.2.2, .inl rfl⟩⟩
  · unfold pageR at e
    split at e
    · rename_i i hi
      injection e with e1 e2
      subst e1
      obtain ⟨a, b, _⟩ := fst1_of hi
      unfold isP at b
      simp only [Bool.and_eq_true, decide_eq_true_eq, Bool.not_eq_true', decide_eq_false_iff_not] at b
      have ho := of_decide_eq_true b.1.1
      exact ⟨⟨by omega, by omega⟩, .inl ⟨ho.1, ho.2, b.1.2, .inr b.2⟩⟩
    · split at e
      · rename_i i hi
        injection e with e1 e2
        subst e1
        obtain ⟨a, b, _⟩ := fst1_of hi
        exact ⟨⟨by omega, by omega⟩, .inr (of_decide_eq_true b)⟩
      · injection e with e1 e2
        injection e2 with e2 _
        cases e2
theorem pageF_cases (h : Heap) (c : List (List Int)) (m k : Nat) : (∃ p, pageF h c m k = (p, true, ())) ∨ pageF h c m k = (0, false, ()) := by
  unfold pageF
  split
  · exact .inl ⟨_, rfl⟩
  · unfold pageR
    split
    · exact .inl ⟨_, rfl⟩
    · split
      · exact .inl ⟨_, rfl⟩
      · exact .inr rfl
/-- The heap with that page in use. -/
def withP (h : Heap) (p : Int) (k : Nat) : Heap := if (spanAt h p).1 = 0 then opened h p k else h
/-- What is taken. -/
structure TakeP (h : Heap) (c : List (List Int)) (m : Nat) (n : Int) (k : Nat) (p : Int) (i : Nat) : Prop where
  k4 : k < 4
  n0 : 0 ≤ n
  n1 : n < cw k
  nl : 0 < k → cw ((k : Int) - 1) ≤ n
  pg : pageF h c m k = (p, true, ())
  ip : inP h p
  was : ((spanAt h p).1 = 1 ∧ (spanAt h p).2.2.1 ≠ 0 ∧ (spanAt h p).2.1 = k ∧ (ent c m k = p ∨ ¬ keptP c p)) ∨ (spanAt h p).1 = 0
  hp : HP (withP h p k)
  ly : layP (withP h p k) p n
  cl : (spanAt (withP h p k) p).2.1 = k
  lo : lowP (spanAt (withP h p k) p).2.2.1 i
  ib : (i : Int) < cb k
def takeR (h : Heap) (c : List (List Int)) (m : Nat) (n : Int) (k : Nat) (p : Int) (i : Nat) : Heap × List (List Int) × Int × Bool × Unit := (laid (withP h p k) p i n, setC c m k p, layA (withP h p k) p i, true, ())
theorem opened_span {h : Heap} {p : Int} (ip : inP h p) (c : Int) : spanAt (opened h p c) p = (1, c, 2 ^ (cb c).toNat - 1, ()) := by
  obtain ⟨n, rfl, hn, _⟩ := ip.nat
  show (h.2.1.set n _).getD n sz = _
  exact getD_set_self hn _ _
theorem take_spec {h : Heap} (q : HP h) {c : List (List Int)} (h4 : C4 c) (hl : c.length ≤ 1000) (r : RightP h c) {m : Nat} (hm : m < c.length) (n : Int) :
    (take_Take (h, c, (m : Int), n, ()) = some (h, c, 0, false, ()) ∧ take_Take_n (h, c, (m : Int), n, ()) = some ((), (), 0, false, ()) ∧ flotsamref11_Take (h, c, (m : Int), n, ()) = some (h, c, 0, false, ())) ∨
    ∃ k p i, TakeP h c m n k p i ∧ take_Take (h, c, (m : Int), n, ()) = some (takeR h c m n k p i) ∧ take_Take_o (h, c, (m : Int), n, ()) = some (takeR h c m n k p i) ∧ flotsamref11_Take (h, c, (m : Int), n, ()) = some (takeR h c m n k p i) := by
  by_cases hn : 0 ≤ n ∧ n ≤ 15
  · obtain ⟨k, hk, e1, e2, c1, c2⟩ := of_in hn.1 hn.2
    have g1 := takePage_eq q h4 hl r hm hk
    have g2 := page11_eq q h4 hl r hm hk
    rcases pageF_cases h c m k with ⟨p, ep⟩ | ep
    · right
      rw [ep] at g1 g2
      obtain ⟨ip, was⟩ := pageF_in q r hm hk ep
      have i0 := ip.1
      have i1 := ip.2
      have hR := q.f.right _ ip.mem
      have h0 := q.fr _ ip.mem
      have hcb : 0 ≤ cb (k : Int) := (cb_le _).1
      have es : h.2.1.getD p.toNat sz = spanAt h p := rfl
      -- the page in use
      obtain ⟨hq, hs1, hs2, hs3⟩ : HP (withP h p k) ∧ (spanAt (withP h p k) p).1 = 1 ∧ (spanAt (withP h p k) p).2.2.1 ≠ 0 ∧ (spanAt (withP h p k) p).2.1 = k := by
        unfold withP
        rcases was with w | w
        · rw [if_neg (by omega)]
          exact ⟨q, w.1, w.2.1, w.2.2.1⟩
        · rw [if_pos w]
          refine ⟨opened_hp q ⟨ip, by omega, by omega, w⟩, ?_⟩
          rw [opened_span ip]
          refine ⟨rfl, ?_, rfl⟩
          show (2 : Int) ^ (cb k).toNat - 1 ≠ 0
          obtain rfl | rfl | rfl | rfl : k = 0 ∨ k = 1 ∨ k = 2 ∨ k = 3 := by omega
          all_goals decide
      have ip' : inP (withP h p k) p := by
        unfold withP
        split
        · exact ⟨i0, by show p < ((h.2.1.set _ _).length : Int); rw [List.length_set]; exact i1⟩
        · exact ip
      have hly : layP (withP h p k) p n := ⟨ip', hs1, hs2, hn.1, by rw [hs3]; exact c1⟩
      obtain ⟨i, hlo, hib, l1, l2⟩ := lay_in hq.f hq.fr hly
      have l3 := lay_o_in hq.f hq.fr hly hlo
      refine ⟨k, p, i, ⟨hk, hn.1, c1, c2, ep, ip, was, hq, hly, hs3, hlo, by rw [← hs3]; exact hib⟩, ?_, ?_, ?_⟩
      · simp only [take_Take, take_Take_r, e1, Option.bind_some, Bool.not_true, cond_false, g1, Bool.cond_decide, ibeq, clone32_eq hl, Int.toNat_natCast]
        simp only [show ((0 : Int), (0 : Int), (0 : Int), ()) = sz from rfl, es]
        rw [if_pos i0, if_pos i1]
        unfold withP at l1
        by_cases w : (spanAt h p).1 = 0
        · rw [if_pos w, open_in q.f ⟨ip, by omega, by omega, w⟩, Option.bind_some]
          rw [if_pos w] at l1
          dsimp only
          rw [l1, Option.bind_some, if_pos (by omega), if_pos (by omega), if_pos (by omega), if_pos (by omega)]
          unfold takeR withP
          rw [if_pos w]
          rfl
        · rw [if_neg w]
          rw [if_neg w] at l1
          rw [l1, Option.bind_some, if_pos (by omega), if_pos (by omega), if_pos (by omega), if_pos (by omega)]
          unfold takeR withP
          rw [if_neg w]
          rfl
      · simp only [take_Take_o, take_Take_o_r, e1, Option.bind_some, Bool.not_true, cond_false, g1, Bool.cond_decide, ibeq, clone32_eq hl, Int.toNat_natCast]
        simp only [show ((0 : Int), (0 : Int), (0 : Int), ()) = sz from rfl, es]
        rw [if_pos i0, if_pos i1]
        unfold withP at l3
        by_cases w : (spanAt h p).1 = 0
        · rw [if_pos w, open_in q.f ⟨ip, by omega, by omega, w⟩, Option.bind_some]
          rw [if_pos w] at l3
          dsimp only
          rw [l3, Option.bind_some, if_pos (by omega), if_pos (by omega), if_pos (by omega), if_pos (by omega)]
          unfold takeR withP
          rw [if_pos w]
          rfl
        · rw [if_neg w]
          rw [if_neg w] at l3
          rw [l3, Option.bind_some, if_pos (by omega), if_pos (by omega), if_pos (by omega), if_pos (by omega)]
          unfold takeR withP
          rw [if_neg w]
          rfl
      · simp only [flotsamref11_Take, flotsamref11_Take_r, e2, Option.bind_some, Bool.not_true, cond_false, g2]
        unfold withP at l2
        by_cases w : (spanAt h p).1 = 0
        · rw [open7_in q.f ⟨ip, by omega, by omega, w⟩, Option.bind_some]
          rw [if_pos w] at l2
          dsimp only
          rw [Bool.not_true, cond_false, l2, Option.bind_some, take11_l0 c hl m hm k hk]
          unfold takeR withP
          rw [if_pos w]
          rfl
        · rw [open7_out (fun o => w o.2.2.2), Option.bind_some]
          rw [if_neg w] at l2
          dsimp only
          rw [Bool.not_false, cond_true, l2, Option.bind_some, take11_l0 c hl m hm k hk]
          unfold takeR withP
          rw [if_neg w]
          rfl
    · left
      rw [ep] at g1 g2
      refine ⟨?_, ?_, ?_⟩
      · simp only [take_Take, take_Take_r, e1, Option.bind_some, Bool.not_true, cond_false, g1, Bool.not_false, cond_true]
      · simp only [take_Take_n, take_Take_n_r, e1, Option.bind_some, Bool.not_true, cond_false, g1, Bool.not_false, cond_true]
      · simp only [flotsamref11_Take, flotsamref11_Take_r, e2, Option.bind_some, Bool.not_true, cond_false, g2, Bool.not_false, cond_true]
  · left
    obtain ⟨e1, e2⟩ := of_out hn
    refine ⟨?_, ?_, ?_⟩
    · simp only [take_Take, take_Take_r, e1, Option.bind_some, Bool.not_false, cond_true]
    · simp only [take_Take_n, take_Take_n_r, e1, Option.bind_some, Bool.not_false, cond_true]
    · simp only [flotsamref11_Take, flotsamref11_Take_r, e2, Option.bind_some, Bool.not_false, cond_true]

/-! The laws' frame. -/
open Classical in
theorem right_eq11 {h : Heap} (g : Good cHeap h) (c : List (List Int)) (m : Int) : flotsamlaw11_right (h, c, m, ()) = some (decide (formB h = true ∧ c.length ≤ 10 ∧ RightP h c ∧ 0 ≤ m ∧ m < c.length), ()) := by
  simp only [flotsamlaw11_right, flotsamlaw11_right_r, form_eq g, Option.bind_some, Bool.cond_decide]
  cases hb : formB h with
  | false => simp
  | true =>
    have q := hp_of g hb
    have hn := q.f.n16
    rw [cond_true]
    by_cases h1 : c.length ≤ 10
    · rw [if_pos (by omega), right11_eq (by omega) hn, Option.bind_some]
      dsimp only
      by_cases h2 : RightP h c
      · rw [decide_eq_true h2, cond_true]
        by_cases h3 : m ≥ 0
        · rw [if_pos h3]
          congr 2
          exact decide_eq_decide.2 ⟨fun a => ⟨rfl, h1, h2, h3, a⟩, fun a => a.2.2.2.2⟩
        · rw [if_neg h3, decide_eq_false (fun a => h3 a.2.2.2.1)]
      · rw [decide_eq_false h2, cond_false, decide_eq_false (fun a => h2 a.2.2.1)]
    · rw [if_neg (by omega), decide_eq_false (fun a => h1 a.2.1)]
theorem good_c4 {c : List (List Int)} (g : Good (.sl (.arr 4 cI)) c) : C4 c := fun r hr => (g.2 r hr).1
theorem same11_self (c : List (List Int)) (hl : c.length ≤ 1000) : flotsamref11_Same (c, c, ()) = some (true, ()) := by
  have hr : flotsamref11_Same_l0 (c, c, 0, ()) = some (.out ()) := by
    unfold flotsamref11_Same_l0
    refine iterL_run c.length (fun i => (c, c, (i : Int), ())) (fun i hi => ?_) ?_ (by omega) rfl
    · simp only [flotsamref11_Same_s0, flotsamref11_Same_s0r, Bool.cond_decide]
      rw [if_pos (by omega), if_pos (by omega), if_pos (by omega), if_pos (by omega), if_pos (by omega)]
      have : ∀ l : List Int, ((List.zip l l).all fun p => p.1 == p.2) = true := by
        intro l
        induction l with
        | nil => rfl
        | cons a l ih => simp [ih]
      rw [this, Bool.not_true, cond_false, wi64_id (by omega) (by omega)]; rfl
    · simp only [flotsamref11_Same_s0, flotsamref11_Same_s0r, Bool.cond_decide]
      rw [if_neg (by omega)]
  simp only [flotsamref11_Same, flotsamref11_Same_r, hr, Option.bind_some, ibne, Bool.cond_decide]
  rw [if_neg (fun h => h trivial)]
end Go.Proofs.YtebdioogklmeaaaDoor.Den
