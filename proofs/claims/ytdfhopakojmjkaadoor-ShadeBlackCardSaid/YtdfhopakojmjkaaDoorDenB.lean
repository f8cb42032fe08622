/- What the evaluator's values and memory say of the machine's: the relation, and what keeps it. -/
import Derived.Test.YtdfhopakojmjkaaDoorDenA
import Derived.Below
import Derived.OwnWalk
namespace Go.Proofs.YtdfhopakojmjkaaDoor.Den
open Go Go.RowKit
set_option linter.unusedVariables false

/-! ### plain data -/
/-- A slice that is read: its elements' cells lie in blocks that nobody writes. -/
def SlD {α : Type} (W : World) (I : Nat → Prop) (R : α → List Value → Prop) (z : Nat) (xs : List α) (v : Value) : Prop :=
  ∃ A cap, v = .slice A xs.length cap ∧ xs.length ≤ cap ∧
    ∀ i x, xs[i]? = some x → ∃ ad c, A = some ad ∧ I ad.block ∧ R x c ∧ c.length = z ∧ ∀ j u, c[j]? = some u → W.cell? (ad.add (i * z + j)) = some u

def RelD (W : World) (I : Nat → Prop) : (u : U) → u.T → List Value → Prop
  | .int k, x, cs => cs = [.int k x]
  | .bool, b, cs => cs = [.bool b]
  | .sl u, xs, cs => ∃ v, cs = [v] ∧ SlD W I (RelD W I u) u.size xs v
  | .arr n u, xs, cs => xs.length = n ∧ cs.length = n * u.size ∧ ∀ (i : Nat) (x : u.T), xs[i]? = some x → RelD W I u x ((cs.drop (i * u.size)).take u.size)
  | .nil, _, cs => cs = []
  | .cons a b, x, cs => ∃ c1 c2, cs = c1 ++ c2 ∧ RelD W I a x.1 c1 ∧ RelD W I b x.2 c2

theorem U.sk_size : ∀ u : U, u.sk.size = u.size
  | .int _ => rfl
  | .bool => rfl
  | .sl _ => rfl
  | .arr n u => by simp [U.sk, U.size, U.sk_size u]
  | .nil => rfl
  | .cons a b => by simp [U.sk, U.size, U.sk_size a, U.sk_size b]
theorem U.sk_agg : ∀ u : U, u.sk.agg = u.agg
  | .int _ => rfl
  | .bool => rfl
  | .sl _ => rfl
  | .arr n u => rfl
  | .nil => rfl
  | .cons a b => rfl

section
variable {W W' : World} {I I' : Nat → Prop}

theorem RelD.len : ∀ {u : U} {x : u.T} {cs : List Value}, RelD W I u x cs → cs.length = u.size
  | .int _, _, _, h => by simp only [RelD] at h; subst h; rfl
  | .bool, _, _, h => by simp only [RelD] at h; subst h; rfl
  | .sl _, _, _, h => by obtain ⟨v, rfl, _⟩ := h; rfl
  | .arr n u, _, _, h => h.2.1
  | .nil, _, _, h => by simp only [RelD] at h; subst h; rfl
  | .cons a b, _, _, h => by
    obtain ⟨c1, c2, rfl, h1, h2⟩ := h
    simp [U.size, h1.len, h2.len]

theorem RelD.one : ∀ {u : U} {x : u.T} {cs : List Value}, RelD W I u x cs → ∀ v ∈ cs, v.oneCell' = true
  | .int _, _, _, h, v, hv => by simp only [RelD] at h; subst h; simp at hv; subst hv; rfl
  | .bool, _, _, h, v, hv => by simp only [RelD] at h; subst h; simp at hv; subst hv; rfl
  | .sl _, _, _, h, v, hv => by
    obtain ⟨w, rfl, A, cap, rfl, _⟩ := h
    simp at hv
    subst hv
    rfl
  | .arr n u, xs, cs, h, v, hv => by
    obtain ⟨hl, hc, hx⟩ := h
    obtain ⟨i, hi, rfl⟩ := List.getElem_of_mem hv
    rcases Nat.eq_zero_or_pos u.size with h0 | h0
    · rw [h0, Nat.mul_zero] at hc; omega
    · have hq : i / u.size < xs.length := by
        rw [hl]; exact Nat.div_lt_of_lt_mul (by rw [Nat.mul_comm, ← hc]; exact hi)
      refine (hx (i / u.size) _ (List.getElem?_eq_getElem hq)).one _ ?_
      rw [List.mem_iff_getElem?]
      refine ⟨i % u.size, ?_⟩
      rw [List.getElem?_take, if_pos (Nat.mod_lt _ h0), List.getElem?_drop]
      have : i / u.size * u.size + i % u.size = i := by rw [Nat.mul_comm]; exact Nat.div_add_mod i u.size
      rw [this]
      exact List.getElem?_eq_getElem hi
  | .nil, _, _, h, v, hv => by simp only [RelD] at h; subst h; simp at hv
  | .cons a b, _, _, h, v, hv => by
    obtain ⟨c1, c2, rfl, h1, h2⟩ := h
    rcases List.mem_append.1 hv with hv | hv
    · exact h1.one _ hv
    · exact h2.one _ hv

theorem cell_of_block {w w' : World} {p : Addr} (h : w'.heap[p.block]? = w.heap[p.block]?) : w'.cell? p = w.cell? p := World.cell?_of_block h
theorem add_block (a : Addr) (n : Nat) : (a.add n).block = a.block := by unfold Addr.add; split <;> rfl

theorem RelD.mono (hI : ∀ b, I b → I' b) (hW : ∀ b, I b → W'.heap[b]? = W.heap[b]?) : ∀ {u : U} {x : u.T} {cs : List Value}, RelD W I u x cs → RelD W' I' u x cs
  | .int _, _, _, h => h
  | .bool, _, _, h => h
  | .sl u, _, _, h => by
    obtain ⟨v, rfl, A, cap, rfl, hn, hx⟩ := h
    refine ⟨_, rfl, A, cap, rfl, hn, fun i x hi => ?_⟩
    obtain ⟨ad, c, rfl, hb, hr, hc, hcell⟩ := hx i x hi
    exact ⟨ad, c, rfl, hI _ hb, hr.mono hI hW, hc, fun j w hj => (cell_of_block (w := W) (w' := W') (p := ad.add (i * u.size + j)) (by rw [add_block]; exact hW _ hb)).trans (hcell j w hj)⟩
  | .arr n u, _, _, h => ⟨h.1, h.2.1, fun i x hi => (h.2.2 i x hi).mono hI hW⟩
  | .nil, _, _, h => h
  | .cons a b, _, _, h => by
    obtain ⟨c1, c2, rfl, h1, h2⟩ := h
    exact ⟨c1, c2, rfl, h1.mono hI hW, h2.mono hI hW⟩
end

theorem castT_some {u v : U} {x : u.T} {y : v.T} (h : castT v x = some y) : ∃ e : u = v, e ▸ x = y := by
  unfold castT at h
  split at h
  · rename_i e
    exact ⟨e, by simpa using h⟩
  · cases h

/-- The cells of a code's zero value. -/
def zcells : U → List Value
  | .int k => [.int k 0]
  | .bool => [.bool false]
  | .sl _ => [.slice none 0 0]
  | .arr n u => (List.replicate n (zcells u)).flatten
  | .nil => []
  | .cons a b => zcells a ++ zcells b
theorem zcells_len : ∀ u : U, (zcells u).length = u.size
  | .int _ => rfl
  | .bool => rfl
  | .sl _ => rfl
  | .arr n u => by simp [zcells, U.size, List.length_flatten, zcells_len u]
  | .nil => rfl
  | .cons a b => by simp [zcells, U.size, zcells_len a, zcells_len b]
theorem chunk_replicate (c : List Value) (n i : Nat) (hi : i < n) : (((List.replicate n c).flatten).drop (i * c.length)).take c.length = c := by
  induction n generalizing i with
  | zero => omega
  | succ n ih =>
    rw [List.replicate_succ, List.flatten_cons]
    cases i with
    | zero => simp
    | succ i =>
      rw [Nat.succ_mul, Nat.add_comm, ← List.drop_drop, List.drop_left]
      exact ih i (by omega)
theorem RelD.zero (W : World) (I : Nat → Prop) : ∀ u : U, RelD W I u u.zero (zcells u)
  | .int _ => rfl
  | .bool => rfl
  | .sl u => ⟨_, rfl, none, 0, rfl, Nat.le_refl _, fun i x h => by simp [U.zero] at h⟩
  | .arr n u => by
    refine ⟨by simp [U.zero], by rw [zcells_len]; rfl, fun i x hi => ?_⟩
    have hi' : i < n := by
      have := (List.getElem?_eq_some_iff.1 hi).1
      simpa [U.zero] using this
    have hx : x = u.zero := by
      have := List.getElem?_eq_some_iff.1 hi
      obtain ⟨h1, h2⟩ := this
      rw [← h2]
      simp [U.zero]
    subst hx
    have := chunk_replicate (zcells u) n i hi'
    rw [zcells_len] at this
    simp only [zcells]
    rw [this]
    exact RelD.zero W I u
  | .nil => rfl
  | .cons a b => ⟨_, _, rfl, RelD.zero W I a, RelD.zero W I b⟩

/-! ### values -/
/-- Where the machine has what the evaluator numbers. -/
structure Ren where
  var : Nat → Nat
  row : Nat → Option (Nat × Nat)
/-- A state: the world, the blocks that nobody writes, the evaluator's memory, where it lies, the numbers that were given. -/
structure S4 where
  W : World
  I : Nat → Prop
  H : HF
  ρ : Ren
  U : Nat → Prop

/-- The value of so many cells. -/
def IsVal (g : Bool) (cs : List Value) (v : Value) : Prop := match g with
  | true => v = .agg cs.toArray
  | false => cs = [v]

/-- How many cells block b has. -/
def bsize (W : World) (b : Nat) : Nat := match W.heap[b]? with
  | some (.cells c _ _) => c.size
  | _ => 0

/-- A slice of n elements of a row that lies at 'pl', from element o on. -/
def RowV (W : World) (pl : Option (Nat × Nat)) (z o n : Nat) (v : Value) : Prop :=
  ∃ A cap, v = .slice A n cap ∧ n ≤ cap ∧ (cap = 0 ∨ ∃ b base, pl = some (b, base) ∧ A = some ⟨b, base + o * z, none⟩ ∧ base + (o + cap) * z ≤ bsize W b)

mutual
def RelC (s : S4) : V → List Value → Prop
  | .d u x, cs => RelD s.W s.I u x cs
  | .cons a b, cs => ∃ c1 c2, cs = c1 ++ c2 ∧ RelC s a c1 ∧ RelC s b c2
  | .nil, cs => cs = []
  | .nilsl, cs => cs = [.slice none 0 0]
  | .dfull u xs, cs => RelD s.W s.I (.sl u) xs cs ∧ ∃ A, cs = [.slice A xs.length xs.length]
  | .row k, cs => s.U k ∧ ∃ v, cs = [v] ∧ v.oneCell' = true ∧ ∀ r, s.H.row k = some r → RowV s.W (s.ρ.row k) r.u.size 0 r.xs.length v
  | .rsub k o n, cs => s.U k ∧ ∃ v, cs = [v] ∧ v.oneCell' = true ∧ ∀ r, s.H.row k = some r → o + n ≤ r.xs.length ∧ RowV s.W (s.ρ.row k) r.u.size o n v
  | .pvar k p, cs => s.U k ∧ ∃ v, cs = [v] ∧ v.oneCell' = true ∧ ∀ c, s.H.var k = some c → ∃ o, c.sk.off p = some o ∧ v = .pointer (some ⟨s.ρ.var k, o, none⟩)
  | .prow k i p, cs => s.U k ∧ ∃ v, cs = [v] ∧ v.oneCell' = true ∧ ∀ r, s.H.row k = some r → ∃ b base o, s.ρ.row k = some (b, base) ∧ i < r.xs.length ∧ r.u.off p = some o ∧ v = .pointer (some ⟨b, base + i * r.u.size + o, none⟩)
  | .pdeep u x, cs => ∃ ad c, cs = [.pointer (some ad)] ∧ s.I ad.block ∧ RelD s.W s.I u x c ∧ ∀ j w, c[j]? = some w → s.W.cell? (ad.add j) = some w
  | .fn f a b, cs => ∃ l m : List Value, cs = [.func (.func f) l.toArray m.toArray] ∧ RelL s a l ∧ RelL s b m
  | .tup _, _ => False
  | .undef, cs => ∃ v, cs = [v] ∧ v.oneCell' = true
def RelL (s : S4) : V → List Value → Prop
  | .cons a b, l => ∃ v r cs, l = v :: r ∧ RelC s a cs ∧ IsVal a.agg cs v ∧ RelL s b r
  | .nil, l => l = []
  | _, _ => False
end

/-- A value in a temporary; of one that isn't known nothing is said. -/
def RelV1 (s : S4) (v : V) (x : Value) : Prop := v = .undef ∨ ∃ cs, RelC s v cs ∧ IsVal v.agg cs x
def RelVL (s : S4) : V → List Value → Prop
  | .cons a b, l => ∃ x r, l = x :: r ∧ RelV1 s a x ∧ RelVL s b r
  | .nil, l => l = []
  | _, _ => False
def RelV (s : S4) : V → Value → Prop
  | .tup vs, x => ∃ l : List Value, x = .tuple l.toArray ∧ RelVL s vs l
  | v, x => RelV1 s v x

theorem RelC.len {s : S4} : ∀ {v : V} {cs : List Value}, RelC s v cs → cs.length = v.size
  | .d u x, cs, h => by simp only [RelC] at h; simp [V.size, V.sk, U.sk_size, h.len]
  | .cons a b, cs, h => by
    simp only [RelC] at h
    obtain ⟨c1, c2, rfl, h1, h2⟩ := h
    have e1 := RelC.len h1
    have e2 := RelC.len h2
    simp [V.size, V.sk, U.size] at e1 e2 ⊢
    omega
  | .nil, cs, h => by simp only [RelC] at h; subst h; rfl
  | .nilsl, cs, h => by simp only [RelC] at h; subst h; rfl
  | .dfull u xs, cs, h => by simp only [RelC] at h; obtain ⟨_, A, rfl⟩ := h; rfl
  | .row k, cs, h => by simp only [RelC] at h; obtain ⟨_, v, rfl, _⟩ := h; rfl
  | .rsub k o n, cs, h => by simp only [RelC] at h; obtain ⟨_, v, rfl, _⟩ := h; rfl
  | .pvar k p, cs, h => by simp only [RelC] at h; obtain ⟨_, v, rfl, _⟩ := h; rfl
  | .prow k i p, cs, h => by simp only [RelC] at h; obtain ⟨_, v, rfl, _⟩ := h; rfl
  | .pdeep u x, cs, h => by simp only [RelC] at h; obtain ⟨_, _, rfl, _⟩ := h; rfl
  | .fn f a b, cs, h => by simp only [RelC] at h; obtain ⟨_, _, rfl, _⟩ := h; rfl
  | .tup _, cs, h => by simp only [RelC] at h
  | .undef, cs, h => by simp only [RelC] at h; obtain ⟨v, rfl, _⟩ := h; rfl
theorem RelC.one {s : S4} : ∀ {v : V} {cs : List Value}, RelC s v cs → ∀ w ∈ cs, w.oneCell' = true
  | .d u x, cs, h, w, hw => by simp only [RelC] at h; exact h.one w hw
  | .cons a b, cs, h, w, hw => by
    simp only [RelC] at h
    obtain ⟨c1, c2, rfl, h1, h2⟩ := h
    rcases List.mem_append.1 hw with hw | hw
    · exact RelC.one h1 w hw
    · exact RelC.one h2 w hw
  | .nil, cs, h, w, hw => by simp only [RelC] at h; subst h; simp at hw
  | .nilsl, cs, h, w, hw => by simp only [RelC] at h; subst h; simp at hw; subst hw; rfl
  | .dfull u xs, cs, h, w, hw => by simp only [RelC] at h; exact h.1.one w hw
  | .row k, cs, h, w, hw => by simp only [RelC] at h; obtain ⟨_, v, rfl, hv, _⟩ := h; simp at hw; subst hw; exact hv
  | .rsub k o n, cs, h, w, hw => by simp only [RelC] at h; obtain ⟨_, v, rfl, hv, _⟩ := h; simp at hw; subst hw; exact hv
  | .pvar k p, cs, h, w, hw => by simp only [RelC] at h; obtain ⟨_, v, rfl, hv, _⟩ := h; simp at hw; subst hw; exact hv
  | .prow k i p, cs, h, w, hw => by simp only [RelC] at h; obtain ⟨_, v, rfl, hv, _⟩ := h; simp at hw; subst hw; exact hv
  | .pdeep u x, cs, h, w, hw => by simp only [RelC] at h; obtain ⟨_, _, rfl, _⟩ := h; simp at hw; subst hw; rfl
  | .fn f a b, cs, h, w, hw => by simp only [RelC] at h; obtain ⟨_, _, rfl, _⟩ := h; simp at hw; subst hw; rfl
  | .tup _, cs, h, _, _ => by simp only [RelC] at h
  | .undef, cs, h, w, hw => by simp only [RelC] at h; obtain ⟨v, rfl, hv⟩ := h; simp at hw; subst hw; exact hv

/-! ### what goes on from a state to a later one -/
structure Ext (B : Nat) (s t : S4) : Prop where
  i : ∀ b, s.I b → t.I b
  inew : ∀ b, t.I b → s.I b ∨ B ≤ b
  w : ∀ b, s.I b → t.W.heap[b]? = s.W.heap[b]?
  below : Below B s.W t.W
  u : ∀ k, s.U k → t.U k
  nx : s.H.nx ≤ t.H.nx
  var : ∀ k c', s.U k → t.H.var k = some c' → ∃ c, s.H.var k = some c ∧ c'.sk = c.sk ∧ t.ρ.var k = s.ρ.var k
  row : ∀ k r', s.U k → t.H.row k = some r' → ∃ r, s.H.row k = some r ∧ r'.u = r.u ∧ r'.xs.length = r.xs.length ∧ t.ρ.row k = s.ρ.row k ∧ ∀ b base, s.ρ.row k = some (b, base) → bsize t.W b = bsize s.W b
theorem Ext.refl (B : Nat) (s : S4) : Ext B s s :=
  ⟨fun _ h => h, fun _ h => .inl h, fun _ _ => rfl, Below.refl _ _, fun _ h => h, Nat.le_refl _, fun k c _ h => ⟨c, h, rfl, rfl⟩, fun k r _ h => ⟨r, h, rfl, rfl, rfl, fun _ _ _ => rfl⟩⟩
theorem Ext.trans {B : Nat} {a b c : S4} (h : Ext B a b) (k : Ext B b c) : Ext B a c where
  i := fun x hx => k.i x (h.i x hx)
  inew := fun x hx => (k.inew x hx).elim (h.inew x) .inr
  w := fun x hx => (k.w x (h.i x hx)).trans (h.w x hx)
  below := h.below.trans k.below
  u := fun x hx => k.u x (h.u x hx)
  nx := Nat.le_trans h.nx k.nx
  var := fun x c' hu hc => by
    obtain ⟨c1, h1, e1, e2⟩ := k.var x c' (h.u x hu) hc
    obtain ⟨c2, h2, e3, e4⟩ := h.var x c1 hu h1
    exact ⟨c2, h2, e1.trans e3, e2.trans e4⟩
  row := fun x r' hu hr => by
    obtain ⟨r1, h1, e1, e2, e3, e4⟩ := k.row x r' (h.u x hu) hr
    obtain ⟨r2, h2, f1, f2, f3, f4⟩ := h.row x r1 hu h1
    refine ⟨r2, h2, e1.trans f1, e2.trans f2, e3.trans f3, fun b base hb => ?_⟩
    rw [e4 b base (by rw [f3]; exact hb), f4 b base hb]

theorem RowV.ext {W W' : World} {pl : Option (Nat × Nat)} {z o n : Nat} {v : Value} (h : RowV W pl z o n v) (hb : ∀ b base, pl = some (b, base) → bsize W' b = bsize W b) : RowV W' pl z o n v := by
  obtain ⟨A, cap, rfl, hn, hc⟩ := h
  refine ⟨A, cap, rfl, hn, ?_⟩
  rcases hc with hc | ⟨b, base, hp, hA, hs⟩
  · exact .inl hc
  · exact .inr ⟨b, base, hp, hA, by rw [hb b base hp]; exact hs⟩

mutual
theorem RelC.ext {B : Nat} {s t : S4} (e : Ext B s t) : ∀ {v : V} {cs : List Value}, RelC s v cs → RelC t v cs
  | .d u x, cs, h => by simp only [RelC] at h ⊢; exact h.mono e.i e.w
  | .cons a b, cs, h => by
    simp only [RelC] at h ⊢
    obtain ⟨c1, c2, rfl, h1, h2⟩ := h
    exact ⟨c1, c2, rfl, RelC.ext e h1, RelC.ext e h2⟩
  | .nil, cs, h => by simp only [RelC] at h ⊢; exact h
  | .nilsl, cs, h => by simp only [RelC] at h ⊢; exact h
  | .dfull u xs, cs, h => by simp only [RelC] at h ⊢; exact ⟨h.1.mono e.i e.w, h.2⟩
  | .row k, cs, h => by
    simp only [RelC] at h ⊢
    obtain ⟨hu, v, rfl, h1, hr⟩ := h
    refine ⟨e.u k hu, v, rfl, h1, fun r' hr' => ?_⟩
    obtain ⟨r, g1, g2, g3, g4, g5⟩ := e.row k r' hu hr'
    rw [g3, g2, g4]
    exact (hr r g1).ext g5
  | .rsub k o n, cs, h => by
    simp only [RelC] at h ⊢
    obtain ⟨hu, v, rfl, h1, hr⟩ := h
    refine ⟨e.u k hu, v, rfl, h1, fun r' hr' => ?_⟩
    obtain ⟨r, g1, g2, g3, g4, g5⟩ := e.row k r' hu hr'
    rw [g3, g2, g4]
    exact ⟨(hr r g1).1, (hr r g1).2.ext g5⟩
  | .pvar k p, cs, h => by
    simp only [RelC] at h ⊢
    obtain ⟨hu, v, rfl, h1, hr⟩ := h
    refine ⟨e.u k hu, v, rfl, h1, fun c' hc' => ?_⟩
    obtain ⟨c, g1, g2, g3⟩ := e.var k c' hu hc'
    rw [g2, g3]
    exact hr c g1
  | .prow k i p, cs, h => by
    simp only [RelC] at h ⊢
    obtain ⟨hu, v, rfl, h1, hr⟩ := h
    refine ⟨e.u k hu, v, rfl, h1, fun r' hr' => ?_⟩
    obtain ⟨r, g1, g2, g3, g4, g5⟩ := e.row k r' hu hr'
    rw [g3, g2, g4]
    exact hr r g1
  | .pdeep u x, cs, h => by
    simp only [RelC] at h ⊢
    obtain ⟨ad, c, rfl, hb, hr, hc⟩ := h
    exact ⟨ad, c, rfl, e.i _ hb, hr.mono e.i e.w, fun j w hj => (cell_of_block (w := s.W) (w' := t.W) (p := ad.add j) (by rw [add_block]; exact e.w _ hb)).trans (hc j w hj)⟩
  | .fn f a b, cs, h => by
    simp only [RelC] at h ⊢
    obtain ⟨l, m, rfl, h1, h2⟩ := h
    exact ⟨l, m, rfl, RelL.ext e h1, RelL.ext e h2⟩
  | .tup _, cs, h => by simp only [RelC] at h
  | .undef, cs, h => by simp only [RelC] at h ⊢; exact h
theorem RelL.ext {B : Nat} {s t : S4} (e : Ext B s t) : ∀ {v : V} {l : List Value}, RelL s v l → RelL t v l
  | .cons a b, l, h => by
    simp only [RelL] at h ⊢
    obtain ⟨v, r, cs, rfl, h1, h2, h3⟩ := h
    exact ⟨v, r, cs, rfl, RelC.ext e h1, h2, RelL.ext e h3⟩
  | .nil, l, h => by simp only [RelL] at h ⊢; exact h
  | .d _ _, _, h => by simp only [RelL] at h
  | .nilsl, _, h => by simp only [RelL] at h
  | .dfull _ _, _, h => by simp only [RelL] at h
  | .row _, _, h => by simp only [RelL] at h
  | .rsub _ _ _, _, h => by simp only [RelL] at h
  | .pvar _ _, _, h => by simp only [RelL] at h
  | .prow _ _ _, _, h => by simp only [RelL] at h
  | .pdeep _ _, _, h => by simp only [RelL] at h
  | .fn _ _ _, _, h => by simp only [RelL] at h
  | .tup _, _, h => by simp only [RelL] at h
  | .undef, _, h => by simp only [RelL] at h
end
theorem RelV1.ext {B : Nat} {s t : S4} (e : Ext B s t) {v : V} {x : Value} (h : RelV1 s v x) : RelV1 t v x :=
  h.imp id fun ⟨cs, h1, h2⟩ => ⟨cs, RelC.ext e h1, h2⟩
theorem RelVL.ext {B : Nat} {s t : S4} (e : Ext B s t) : ∀ {v : V} {l : List Value}, RelVL s v l → RelVL t v l := by
  intro v
  induction v with
  | cons a b _ ih =>
    intro l h
    obtain ⟨x, r, rfl, h1, h2⟩ := h
    exact ⟨x, r, rfl, h1.ext e, ih h2⟩
  | nil => intro l h; exact h
  | _ => intro l h; simp only [RelVL] at h
theorem RelV.ext {B : Nat} {s t : S4} (e : Ext B s t) {v : V} {x : Value} (h : RelV s v x) : RelV t v x := by
  cases v with
  | tup vs => obtain ⟨l, rfl, hl⟩ := h; exact ⟨l, rfl, hl.ext e⟩
  | _ => exact RelV1.ext e h

/-! ### the memory -/
structure MemOk (B : Nat) (s : S4) : Prop where
  ilt : ∀ b, s.I b → b < s.W.heap.size
  bsz : B ≤ s.W.heap.size
  un : ∀ k, s.U k → k < s.H.nx
  var : ∀ k c, s.H.var k = some c → s.U k ∧ B ≤ s.ρ.var k ∧ ¬ s.I (s.ρ.var k) ∧ ∃ cs t, s.W.heap[s.ρ.var k]? = some (.cells cs t (0, 0)) ∧ RelC s c cs.toList
  row : ∀ k r, s.H.row k = some r → s.U k ∧ 0 < r.u.size ∧ ((r.xs = [] ∧ s.ρ.row k = none) ∨
    ∃ b base cur t, s.ρ.row k = some (b, base) ∧ s.W.heap[b]? = some (.cells cur t (0, 0)) ∧ (r.w = true → B ≤ b ∧ ¬ s.I b) ∧ (r.w = false → s.I b) ∧
      base + r.xs.length * r.u.size ≤ cur.size ∧ ∀ i x, r.xs[i]? = some x → ∃ c, RelD s.W s.I r.u x c ∧ ∀ j v, c[j]? = some v → cur[base + i * r.u.size + j]? = some v)
  vv : ∀ k l c c', k ≠ l → s.H.var k = some c → s.H.var l = some c' → s.ρ.var k ≠ s.ρ.var l
  rr : ∀ k l r r' b b0 b1, k ≠ l → s.H.row k = some r → s.H.row l = some r' → r.w = true → r'.w = true → s.ρ.row k = some (b, b0) → s.ρ.row l = some (b, b1) → False
  vr : ∀ k l c r b b0, s.H.var k = some c → s.H.row l = some r → r.w = true → s.ρ.row l = some (b, b0) → s.ρ.var k ≠ b

/-- The package-level variables that are only read hold what is told of them. -/
def GlobW (W : World) (I : Nat → Prop) : Prop := ∀ g u x, globs g = some ⟨u, x⟩ → I g ∧ ∃ c, RelD W I u x c ∧ ∀ j w, c[j]? = some w → W.cell? ((⟨g, 0, none⟩ : Addr).add j) = some w
theorem GlobW.mono {W W' : World} {I I' : Nat → Prop} (hI : ∀ b, I b → I' b) (hW : ∀ b, I b → W'.heap[b]? = W.heap[b]?) (h : GlobW W I) : GlobW W' I' := by
  intro g u x hg
  obtain ⟨h1, c, h2, h3⟩ := h g u x hg
  exact ⟨hI g h1, c, h2.mono hI hW, fun j w hj => (cell_of_block (w := W) (w' := W') (p := (⟨g, 0, none⟩ : Addr).add j) (by rw [add_block]; exact hW g h1)).trans (h3 j w hj)⟩
structure TRel (s : S4) (T : TF) (tmps : Array Value) : Prop where
  tmp : ∀ i, RelV s (T i) (tmps.getD i undef)
  gl : GlobW s.W s.I
theorem TRel.ext {B : Nat} {s t : S4} (e : Ext B s t) {T : TF} {tmps : Array Value} (h : TRel s T tmps) : TRel t T tmps := ⟨fun i => (h.tmp i).ext e, h.gl.mono e.i e.w⟩
end Go.Proofs.YtdfhopakojmjkaaDoor.Den
