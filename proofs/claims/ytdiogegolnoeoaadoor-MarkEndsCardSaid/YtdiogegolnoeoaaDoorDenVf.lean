/- Pure laws: how long marking goes on. -/
import Derived.Test.YtdiogegolnoeoaaDoorDenVe
namespace Go.Proofs.YtdiogegolnoeoaaDoor.Den
open Go
set_option linter.unusedVariables false
set_option linter.unusedSimpArgs false
set_option maxRecDepth 100000

theorem countP_up {α : Type} {p q : α → Bool} : ∀ {l : List α}, (∀ x ∈ l, q x = true → p x = true) → l.countP q ≤ l.countP p
  | [], _ => Nat.le_refl _
  | x :: l, h => by
    have ih := countP_up (p := p) (q := q) (l := l) fun y hy => h y (List.mem_cons_of_mem _ hy)
    rw [List.countP_cons, List.countP_cons]
    cases hq : q x with
    | true => rw [h x List.mem_cons_self hq]; simp; exact ih
    | false => cases p x <;> simp <;> omega
theorem countP_lt {α : Type} {p q : α → Bool} {a : α} : ∀ {l : List α}, (∀ x ∈ l, q x = true → p x = true) → a ∈ l → p a = true → q a = false → l.countP q + 1 ≤ l.countP p
  | x :: l, h, ha, h1, h2 => by
    have ih := countP_up (p := p) (q := q) (l := l) fun y hy => h y (List.mem_cons_of_mem _ hy)
    rw [List.countP_cons, List.countP_cons]
    rcases List.mem_cons.1 ha with rfl | ha
    · rw [h1, h2]; simp; exact ih
    · have ih := countP_lt (p := p) (q := q) (l := l) (fun y hy => h y (List.mem_cons_of_mem _ hy)) ha h1 h2
      cases hq : q x with
      | true => rw [h x List.mem_cons_self hq]; simp; omega
      | false => cases p x <;> simp <;> omega
def wht (h0 h : Heap) : Nat := (lst h0).countP fun a => !bk h a
def nit (m : MarkT) : Nat := m.1.2.1.length + (m.2.1.map fun g => g.2.1.length).sum
def ovP (h0 : Heap) (v : Bool) : Nat := if v = true then 17 * (lst h0).length + 2 else 0
def curP (h0 : Heap) (c : Int) : Nat := if c = -1 then 0 else 1 + 17 * (lst h0).countP fun a => decide (c ≤ a)
def hndP (h0 : Heap) (o i : Int) : Nat := if o = -1 then 0 else (cnt h0 o - i).toNat
def pot (h0 h : Heap) (m : MarkT) : Nat := wht h0 h * (17 * (lst h0).length + 8) + ovP h0 m.2.2.2.2.2.2.1 + curP h0 m.2.2.2.2.2.1 + m.2.2.1.length + 17 * nit m + hndP h0 m.2.2.2.1 m.2.2.2.2.1
theorem Shd.pot {h0 h h' : Heap} (f0 : FormP h0) {S : Int → Bool} (e : h = pn h0 S) {g g' : Grey} {v : Val} {w : Bool} (s : Shd h g v h' g' w) (b : Bool) :
    wht h0 h' * (17 * (lst h0).length + 8) + 17 * g'.2.1.length + ovP h0 (b || w) ≤ wht h0 h * (17 * (lst h0).length + 8) + 17 * g.2.1.length + ovP h0 b := by
  have f : FormP h := by rw [e]; exact f0.pn S
  have sf := s.facts f
  have less : v.1 = 2 → okA h v.2.1 = true → bk h v.2.1 = false → wht h0 h' * (17 * (lst h0).length + 8) + (17 * (lst h0).length + 8) ≤ wht h0 h * (17 * (lst h0).length + 8) ∧ 1 ≤ (lst h0).length := by
    intro h1 h2 h3
    have hm : v.2.1 ∈ lst h0 := (mem_lst f0).2 (by rw [← okA_pn f0 S, ← e]; exact h2)
    have : wht h0 h' + 1 ≤ wht h0 h := by
      refine countP_lt (fun x _ hx => ?_) hm (by rw [h3]; rfl) (by rw [sf.now h1 h2]; rfl)
      cases hb : bk h x with
      | false => rfl
      | true => rw [sf.up x hb] at hx; cases hx
    have h5 := Nat.mul_le_mul_right (17 * (lst h0).length + 8) this
    rw [Nat.add_mul, Nat.one_mul] at h5
    exact ⟨h5, List.length_pos_of_mem hm⟩
  cases s with
  | none h1 => rw [Bool.or_false]; exact Nat.le_refl _
  | push h1 h2 h3 h4 h5 =>
    obtain ⟨h6, h7⟩ := less h1 h2 h3
    rw [Bool.or_false]
    simp only [List.length_append, List.length_singleton]
    omega
  | full h1 h2 h3 =>
    obtain ⟨h6, h7⟩ := less h1 h2 h3
    rw [Bool.or_true]
    unfold ovP
    rw [if_pos rfl]
    split <;> omega
theorem hnd_hand {h0 h : Heap} (f0 : FormP h0) {S : Int → Bool} (e : h = pn h0 S) (g : Grey) (bs : List Grey) (rs : List Val) (c : Int) (v : Bool) (a : Int) : pot h0 h (hand h (g, bs, rs, -1, 0, c, v, ()) a) ≤ pot h0 h (g, bs, rs, -1, 0, c, v, ()) + 15 := by
  rcases hand_cases h g bs rs c v a with ⟨h1, h2, e'⟩ | ⟨_, e'⟩
  · rw [e']
    rw [e, okA_pn f0] at h1
    have := og_rng f0 h1
    have e2 : cnt h0 a = (og h0 a).1.2.2.2.1 := rfl
    have : hndP h0 a 0 ≤ 15 := by
      unfold hndP
      split <;> omega
    show wht h0 h * (17 * (lst h0).length + 8) + ovP h0 v + curP h0 c + rs.length + 17 * nit (g, bs, rs, -1, 0, c, v, ()) + hndP h0 a 0 ≤ wht h0 h * (17 * (lst h0).length + 8) + ovP h0 v + curP h0 c + rs.length + 17 * nit (g, bs, rs, -1, 0, c, v, ()) + hndP h0 (-1) 0 + 15
    omega
  · rw [e']; omega
theorem Stp.pot {h0 h h' : Heap} (f0 : FormP h0) {S : Int → Bool} (e : h = pn h0 S) {m m' : MarkT} (s : Stp h m h' m') : pot h0 h' m' + 1 ≤ pot h0 h m := by
  have f : FormP h := by rw [e]; exact f0.pn S
  cases s with
  | @fld g g' bs rs o i c v w h' ho he s =>
    have sp := s.pot f0 e v
    rw [e, fe_pn f0] at he
    obtain ⟨q1, q2, q3⟩ := fe_ok he
    have hc : cnt h o = cnt h0 o := by rw [e]; exact cnt_pnA f0 S q1
    have : hndP h0 (if cnt h o ≤ i + 1 then -1 else o) (if cnt h o ≤ i + 1 then 0 else i + 1) + 1 ≤ hndP h0 o i := by
      unfold hndP
      rw [hc, if_neg ho]
      by_cases hl : cnt h0 o ≤ i + 1
      · rw [if_pos hl, if_pos hl, if_pos rfl]; omega
      · rw [if_neg hl, if_neg hl, if_neg ho]; omega
    show wht h0 h' * (17 * (lst h0).length + 8) + ovP h0 (v || w) + curP h0 c + rs.length + 17 * (g'.2.1.length + (bs.map fun g => g.2.1.length).sum) + hndP h0 (if cnt h o ≤ i + 1 then -1 else o) (if cnt h o ≤ i + 1 then 0 else i + 1) + 1 ≤ wht h0 h * (17 * (lst h0).length + 8) + ovP h0 v + curP h0 c + rs.length + 17 * (g.2.1.length + (bs.map fun g => g.2.1.length).sum) + hndP h0 o i
    omega
  | @pop r l a bs rs c v =>
    have := hnd_hand f0 e (r, l, ()) bs rs c v a
    have e2 : Den.pot h0 h ((r, l ++ [a], ()), bs, rs, -1, 0, c, v, ()) = Den.pot h0 h ((r, l, ()), bs, rs, -1, 0, c, v, ()) + 17 := by
      simp only [Den.pot, nit, List.length_append, List.length_singleton]
      omega
    omega
  | @row g xs ys r l a rs c v =>
    have := hnd_hand f0 e g (xs ++ (r, l, ()) :: ys) rs c v a
    have e2 : Den.pot h0 h (g, xs ++ (r, l ++ [a], ()) :: ys, rs, -1, 0, c, v, ()) = Den.pot h0 h (g, xs ++ (r, l, ()) :: ys, rs, -1, 0, c, v, ()) + 17 := by
      simp only [Den.pot, nit, List.map_append, List.map_cons, List.sum_append, List.sum_cons, List.length_append, List.length_singleton]
      omega
    omega
  | @root g g' bs x rs c v w h' s =>
    have sp := s.pot f0 e v
    show wht h0 h' * (17 * (lst h0).length + 8) + ovP h0 (v || w) + curP h0 c + rs.length + 17 * (g'.2.1.length + (bs.map fun g => g.2.1.length).sum) + hndP h0 (-1) 0 + 1 ≤ wht h0 h * (17 * (lst h0).length + 8) + ovP h0 v + curP h0 c + (x :: rs).length + 17 * (g.2.1.length + (bs.map fun g => g.2.1.length).sum) + hndP h0 (-1) 0
    rw [List.length_cons]
    omega
  | @cur g bs rs c v a hc ha hb hx =>
    have h1 := hnd_hand f0 e g bs rs (a + 1) v a
    have h0' := (fndB_rng (og_ok (bk_ok hb)).1).1
    have hm : a ∈ lst h0 := (mem_lst f0).2 (by rw [← okA_pn f0 S, ← e]; exact bk_ok hb)
    have h2 : ((lst h0).countP fun x => decide (a + 1 ≤ x)) + 1 ≤ (lst h0).countP fun x => decide (c ≤ x) := by
      refine countP_lt (fun x _ hx => ?_) hm (decide_eq_true ha) (decide_eq_false (by omega))
      have hx := of_decide_eq_true hx
      exact decide_eq_true (by omega)
    have e2 : Den.pot h0 h (g, bs, rs, -1, 0, a + 1, v, ()) + 17 ≤ Den.pot h0 h (g, bs, rs, -1, 0, c, v, ()) := by
      show wht h0 h * (17 * (lst h0).length + 8) + ovP h0 v + curP h0 (a + 1) + rs.length + 17 * nit (g, bs, rs, -1, 0, c, v, ()) + hndP h0 (-1) 0 + 17 ≤ wht h0 h * (17 * (lst h0).length + 8) + ovP h0 v + curP h0 c + rs.length + 17 * nit (g, bs, rs, -1, 0, c, v, ()) + hndP h0 (-1) 0
      have n1 : ¬ a + 1 = -1 := by omega
      unfold curP
      rw [if_neg n1, if_neg hc]
      omega
    omega
  | @noc g bs rs c v hc hx =>
    show wht h0 h * (17 * (lst h0).length + 8) + ovP h0 v + curP h0 (-1) + rs.length + 17 * nit (g, bs, rs, -1, 0, c, v, ()) + hndP h0 (-1) 0 + 1 ≤ wht h0 h * (17 * (lst h0).length + 8) + ovP h0 v + curP h0 c + rs.length + 17 * nit (g, bs, rs, -1, 0, c, v, ()) + hndP h0 (-1) 0
    unfold curP
    rw [if_pos rfl, if_neg hc]
    omega
  | @ovr g bs rs =>
    have h1 : ((lst h0).countP fun x => decide ((0 : Int) ≤ x)) ≤ (lst h0).length := List.countP_le_length
    show wht h0 h * (17 * (lst h0).length + 8) + ovP h0 false + curP h0 0 + rs.length + 17 * nit (g, bs, rs, -1, 0, 0, false, ()) + hndP h0 (-1) 0 + 1 ≤ wht h0 h * (17 * (lst h0).length + 8) + ovP h0 true + curP h0 (-1) + rs.length + 17 * nit (g, bs, rs, -1, 0, 0, false, ()) + hndP h0 (-1) 0
    unfold curP ovP
    rw [if_pos rfl, if_neg (by decide), if_pos rfl, if_neg (by decide)]
    omega
theorem nt_pot {h0 h : Heap} (f0 : FormP h0) {S : Int → Bool} (e : h = pn h0 S) {m : MarkT} {k : Nat} (hk : k < m.2.1.length) (v : Val) : pot h0 (nt h m k v).1 (nt h m k v).2 ≤ pot h0 h m := by
  have f : FormP h := by rw [e]; exact f0.pn S
  obtain ⟨xs, g, ys, g', w, e1, s, e2⟩ := nt_cases f hk v
  have sp := s.pot f0 e m.2.2.2.2.2.2.1
  rw [e2]
  simp only [pot, nit]
  rw [e1]
  simp only [List.map_append, List.map_cons, List.sum_append, List.sum_cons]
  omega
def bnd (h : Heap) (m : MarkT) : Nat := ((lst h).length + 3) * (17 * (lst h).length + 8) + m.2.2.1.length + 17 * nit m + 20
theorem pot_le {h0 h : Heap} (f0 : FormP h0) {S : Int → Bool} (e : h = pn h0 S) {m : MarkT} (p : MkP h m) : pot h0 h m ≤ bnd h0 m := by
  have h1 : wht h0 h ≤ (lst h0).length := List.countP_le_length
  have h2 := Nat.mul_le_mul_right (17 * (lst h0).length + 8) h1
  have h3 : ovP h0 m.2.2.2.2.2.2.1 ≤ 17 * (lst h0).length + 2 := by unfold ovP; split <;> omega
  have h4 : curP h0 m.2.2.2.2.2.1 ≤ 1 + 17 * (lst h0).length := by
    have : ((lst h0).countP fun x => decide (m.2.2.2.2.2.1 ≤ x)) ≤ (lst h0).length := List.countP_le_length
    unfold curP; split <;> omega
  have h5 : hndP h0 m.2.2.2.1 m.2.2.2.2.1 ≤ 15 := by
    unfold hndP
    split
    · omega
    · rename_i hn
      have he := p.ob.resolve_left fun h => hn h.1
      rw [e, fe_pn f0] at he
      obtain ⟨q1, q2, q3⟩ := fe_ok he
      have := (og_rng f0 q1).2.2.2.2
      have e2 : cnt h0 m.2.2.2.1 = (og h0 m.2.2.2.1).1.2.2.2.1 := rfl
      omega
  unfold pot bnd
  rw [Nat.add_mul]
  omega
theorem nit_le {h : Heap} {m : MarkT} (p : MkP h m) : nit m ≤ 176 := by
  have h1 := p.g.len
  have h2 := p.g.r16
  have h3 := p.bl
  have : ∀ l : List Grey, (∀ g ∈ l, GreyP g) → (l.map fun g => g.2.1.length).sum ≤ 16 * l.length := by
    intro l
    induction l with
    | nil => intro _; exact Nat.le_refl _
    | cons g l ih =>
      intro hl
      have q := hl g List.mem_cons_self
      have q1 := q.len
      have q2 := q.r16
      have := ih fun x hx => hl x (List.mem_cons_of_mem _ hx)
      simp only [List.map_cons, List.sum_cons, List.length_cons]
      omega
  have := this m.2.1 p.b
  unfold nit
  omega
theorem bnd_le {h h1 : Heap} (f : FormP h) {m : MarkT} (p : MkP h1 m) : bnd h m ≤ 5000000 := by
  have h1 := lst_len f
  have h2 := nit_le p
  have h3 := p.rl
  have h4 : ((lst h).length + 3) * (17 * (lst h).length + 8) ≤ 515 * 8712 := Nat.mul_le_mul (by omega) (by omega)
  unfold bnd
  omega
theorem bound17_eq {h : Heap} (f : FormP h) {m : MarkT} (p : MkP h m) : flotsamref17_Bound (h, m, ()) = some ((bnd h m : Int), ()) := by
  have hb := p.bl
  have hn := nit_le p
  have hL := lst_len f
  have hr := p.rl
  have hg := bnd_le f p
  have key : flotsamref17_Bound_l0 (((lst h).length : Int), (m.1.2.1.length : Int), 0, m, ()) = some (.out (((lst h).length : Int), (nit m : Int), m, ())) := by
    unfold flotsamref17_Bound_l0
    refine iterL_run m.2.1.length (fun i => (((lst h).length : Int), ((m.1.2.1.length + ((m.2.1.take i).map fun g => g.2.1.length).sum : Nat) : Int), (i : Int), m, ())) (fun i hi => ?_) ?_ (by omega) (by simp)
    · have e1 : ((m.2.1.take (i + 1)).map fun g => g.2.1.length).sum = ((m.2.1.take i).map fun g => g.2.1.length).sum + m.2.1[i].2.1.length := by
        rw [← List.take_append_getElem hi, List.map_append, List.sum_append]; simp
      have e2 : (m.2.1.map fun g => g.2.1.length).sum = ((m.2.1.take (i + 1)).map fun g => g.2.1.length).sum + ((m.2.1.drop (i + 1)).map fun g => g.2.1.length).sum := by
        rw [← List.sum_append, ← List.map_append, List.take_append_drop]
      unfold nit at hn
      simp only [flotsamref17_Bound_s0, flotsamref17_Bound_s0r, Bool.cond_decide, Int.toNat_natCast, get_d _ _ _ hi]
      rw [if_pos (by omega), if_pos (by omega), if_pos (by omega), wi64_id (n := (i : Int) + 1) (by omega) (by omega), wi64_id (by omega) (by omega), e1]
      simp only [Int.natCast_add, Int.add_assoc]
      rfl
    · simp only [flotsamref17_Bound_s0, flotsamref17_Bound_s0r, Bool.cond_decide]
      rw [if_neg (by omega), List.take_length]
      rfl
  simp only [flotsamref17_Bound, flotsamref17_Bound_r, list_eq f, Option.bind_some, key]
  unfold bnd at hg ⊢
  have e3 : (((lst h).length : Int) + 3) * (17 * ((lst h).length : Int) + 8) = ((((lst h).length + 3) * (17 * (lst h).length + 8) : Nat) : Int) := by
    simp
  rw [wi64_id (n := ((lst h).length : Int) + 3) (by omega) (by omega), wi64_id (n := 17 * ((lst h).length : Int)) (by omega) (by omega), wi64_id (n := 17 * ((lst h).length : Int) + 8) (by omega) (by omega), e3]
  generalize ((lst h).length + 3) * (17 * (lst h).length + 8) = Q at *
  rw [wi64_id (n := (Q : Int)) (by omega) (by omega), wi64_id (n := (Q : Int) + _) (by omega) (by omega), wi64_id (n := 17 * (nit m : Int)) (by omega) (by omega), wi64_id (n := (Q : Int) + _ + _) (by omega) (by omega), wi64_id (by omega) (by omega)]
  congr 2
end Go.Proofs.YtdiogegolnoeoaaDoor.Den
