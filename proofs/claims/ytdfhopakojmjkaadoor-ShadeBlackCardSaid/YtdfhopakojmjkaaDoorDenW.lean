/- What an operation reads and writes of the evaluator's memory. -/
import Derived.Test.YtdfhopakojmjkaaDoorDenR
import Derived.Orders
namespace Go.Proofs.YtdfhopakojmjkaaDoor.Den
open Go Go.RowKit
set_option linter.unusedVariables false
set_option linter.unusedSectionVars false

def Agree (D : Nat → Prop) (H H2 : HF) : Prop := ∀ k, D k → H2.var k = H.var k ∧ H2.row k = H.row k
structure Patch (A : Nat → Prop) (H' H2 H2' : HF) : Prop where
  on : ∀ k, A k → H2'.var k = H'.var k ∧ H2'.row k = H'.row k
  off : ∀ k, ¬ A k → H2'.var k = H2.var k ∧ H2'.row k = H2.row k
  nx : H2'.nx = H2.nx
def Res.setH (H2 : HF) : Res → Res
  | .fail => .fail
  | .ok v _ => .ok v H2
  | .ite c a b => .ite c (a.setH H2) (b.setH H2)
  | .opt r o k => .opt r o fun y => (k y).setH H2
/-- All ways lead to this memory. -/
def Res.isH (H : HF) : Res → Prop
  | .fail => True
  | .ok _ H' => H' = H
  | .ite _ a b => a.isH H ∧ b.isH H
  | .opt _ _ k => ∀ y, (k y).isH H
theorem Res.to_setH {H2 : HF} : ∀ {r : Res} {v : V} {H' : HF}, r.to v H' → (r.setH H2).to v H2
  | .fail, _, _, h => h
  | .ok _ _, _, _, h => ⟨h.1, rfl⟩
  | .ite c a b, _, _, h => h.imp (fun e => ⟨e.1, Res.to_setH e.2⟩) (fun e => ⟨e.1, Res.to_setH e.2⟩)
  | .opt r o k, _, _, h => by
    obtain ⟨x, h1, h2⟩ := h
    exact ⟨x, h1, Res.to_setH h2⟩
theorem Res.to_isH {H : HF} : ∀ {r : Res} {v : V} {H' : HF}, r.isH H → r.to v H' → H' = H
  | .fail, _, _, _, h => h.elim
  | .ok _ _, _, _, hi, h => h.2.symm.trans hi
  | .ite c a b, _, _, hi, h => h.elim (fun e => Res.to_isH hi.1 e.2) (fun e => Res.to_isH hi.2 e.2)
  | .opt r o k, _, _, hi, h => by
    obtain ⟨x, h1, h2⟩ := h
    exact Res.to_isH (hi x) h2
theorem Res.to_det : ∀ {r : Res} {v v' : V} {H H' : HF}, r.to v H → r.to v' H' → v = v' ∧ H = H'
  | .fail, _, _, _, _, h, _ => h.elim
  | .ok _ _, _, _, _, _, h, g => ⟨h.1.symm.trans g.1, h.2.symm.trans g.2⟩
  | .ite c a b, _, _, _, _, h, g => by
    rcases h with ⟨e, h⟩ | ⟨e, h⟩ <;> rcases g with ⟨e', g⟩ | ⟨e', g⟩
    · exact Res.to_det h g
    · rw [e] at e'; cases e'
    · rw [e] at e'; cases e'
    · exact Res.to_det h g
  | .opt r o k, _, _, _, _, h, g => by
    obtain ⟨x, h1, h2⟩ := h
    obtain ⟨y, g1, g2⟩ := g
    rw [h1] at g1
    injection g1 with g1
    subst g1
    exact Res.to_det h2 g2

section
variable {D : Nat → Prop} {H H2 : HF} (hA : Agree D H H2)
include hA
theorem deepen_agree : ∀ {u : U} {v : V}, (∀ k ∈ v.keys, D k) → deepen H2 u v = deepen H u v
  | u, .d u' x, h => by simp only [deepen]
  | .cons a b, .cons va vb, h => by
    simp only [deepen]
    rw [deepen_agree (v := va) (fun k hk => h k (by simp [V.keys, hk])), deepen_agree (v := vb) (fun k hk => h k (by simp [V.keys, hk]))]
  | .sl u, .row k, h => by simp only [deepen, (hA k (h k (by simp [V.keys]))).2]
  | .sl u, .rsub k _ _, h => by simp only [deepen, (hA k (h k (by simp [V.keys]))).2]
  | .nil, .nil, h => by simp only [deepen]
  | .sl u, .nilsl, h => by simp only [deepen]
  | .sl u, .dfull _ _, h => by simp only [deepen]
  | .int _, .cons _ _, _ => rfl
  | .int _, .nil, _ => rfl
  | .int _, .nilsl, _ => rfl
  | .int _, .dfull _ _, _ => rfl
  | .int _, .row _, _ => rfl
  | .int _, .rsub _ _ _, _ => rfl
  | .bool, .cons _ _, _ => rfl
  | .bool, .nil, _ => rfl
  | .bool, .nilsl, _ => rfl
  | .bool, .dfull _ _, _ => rfl
  | .bool, .row _, _ => rfl
  | .bool, .rsub _ _ _, _ => rfl
  | .sl _, .cons _ _, _ => rfl
  | .sl _, .nil, _ => rfl
  | .arr _ _, .cons _ _, _ => rfl
  | .arr _ _, .nil, _ => rfl
  | .arr _ _, .nilsl, _ => rfl
  | .arr _ _, .dfull _ _, _ => rfl
  | .arr _ _, .row _, _ => rfl
  | .arr _ _, .rsub _ _ _, _ => rfl
  | .nil, .cons _ _, _ => rfl
  | .nil, .nilsl, _ => rfl
  | .nil, .dfull _ _, _ => rfl
  | .nil, .row _, _ => rfl
  | .nil, .rsub _ _ _, _ => rfl
  | .cons _ _, .nil, _ => rfl
  | .cons _ _, .nilsl, _ => rfl
  | .cons _ _, .dfull _ _, _ => rfl
  | .cons _ _, .row _, _ => rfl
  | .cons _ _, .rsub _ _ _, _ => rfl
  | u, .pvar _ _, _ => by cases u <;> rfl
  | u, .prow _ _ _, _ => by cases u <;> rfl
  | u, .pdeep _ _, _ => by cases u <;> rfl
  | u, .fn _ _ _, _ => by cases u <;> rfl
  | u, .tup _, _ => by cases u <;> rfl
  | u, .undef, _ => by cases u <;> rfl
theorem lenV_agree {v : V} (h : ∀ k ∈ v.keys, D k) : lenV H2 v = lenV H v := by
  cases v with
  | row k => simp only [lenV, (hA k (h k (by simp [V.keys]))).2]
  | rsub k _ _ => simp only [lenV, (hA k (h k (by simp [V.keys]))).2]
  | d u x => cases u <;> rfl
  | _ => rfl
theorem fitsZ_agree {z : Nat} {v : V} (h : ∀ k ∈ v.keys, D k) : fitsZ H2 z v = fitsZ H z v := by
  cases v with
  | row k => simp only [fitsZ, (hA k (h k (by simp [V.keys]))).2]
  | rsub k _ _ => simp only [fitsZ, (hA k (h k (by simp [V.keys]))).2]
  | d u x => cases u <;> rfl
  | _ => rfl
theorem loadV_agree {E : TE} {t : Nat} {v : V} (h : ∀ k ∈ v.keys, D k) : loadV E H2 t v = (loadV E H t v).setH H2 := by
  cases v with
  | pvar k p =>
    simp only [loadV, (hA k (h k (by simp [V.keys]))).1]
    repeat' (split <;> first | rfl | contradiction | skip)
  | prow k i p =>
    simp only [loadV, (hA k (h k (by simp [V.keys]))).2]
    repeat' (split <;> first | rfl | contradiction | skip)
  | pdeep u x =>
    simp only [loadV]
    repeat' (split <;> first | rfl | contradiction | skip)
  | _ => rfl
theorem fieldV_agree {E : TE} {t f : Nat} {v : V} (h : ∀ k ∈ v.keys, D k) : fieldV E H2 t f v = (fieldV E H t f v).setH H2 := by
  cases v with
  | pvar k p =>
    simp only [fieldV, (hA k (h k (by simp [V.keys]))).1]
    repeat' (split <;> first | rfl | contradiction | skip)
  | prow k i p =>
    simp only [fieldV, (hA k (h k (by simp [V.keys]))).2]
    repeat' (split <;> first | rfl | contradiction | skip)
  | pdeep u x =>
    simp only [fieldV]
    repeat' (split <;> first | rfl | contradiction | skip)
  | _ => rfl
theorem indexV_agree {E : TE} {t : Nat} {i : Int} {v : V} (h : ∀ k ∈ v.keys, D k) : indexV E H2 t v i = (indexV E H t v i).setH H2 := by
  cases v with
  | pvar k p =>
    simp only [indexV, (hA k (h k (by simp [V.keys]))).1]
    repeat' (split <;> first | rfl | contradiction | skip)
  | prow k i p =>
    simp only [indexV, (hA k (h k (by simp [V.keys]))).2]
    repeat' (split <;> first | rfl | contradiction | skip)
  | row k =>
    simp only [indexV, (hA k (h k (by simp [V.keys]))).2]
    repeat' (split <;> first | rfl | contradiction | skip)
  | rsub k o n =>
    simp only [indexV, (hA k (h k (by simp [V.keys]))).2]
    repeat' (split <;> first | rfl | contradiction | skip)
  | pdeep u x =>
    simp only [indexV]
    repeat' (split <;> first | rfl | contradiction | skip)
  | d u x =>
    simp only [indexV]
    repeat' (split <;> first | rfl | contradiction | skip)
  | dfull u x =>
    simp only [indexV]
    repeat' (split <;> first | rfl | contradiction | skip)
  | _ =>
    simp only [indexV]
    repeat' (split <;> first | rfl | contradiction | skip)
theorem cutV_agree {full : Bool} {l h' : Int} {v : V} (h : ∀ k ∈ v.keys, D k) : cutV H2 full v l h' = (cutV H full v l h').setH H2 := by
  unfold cutV
  rw [lenV_agree hA h]
  split
  · rfl
  · simp only [Res.setH]
    congr 1
    congr 1
    congr 1
    repeat' (split <;> first | rfl | contradiction | skip)
theorem binV_agree {E : TE} {op : BinOp} {t : Nat} {v w : V} (h : ∀ k ∈ v.keys, D k) (h' : ∀ k ∈ w.keys, D k) : binV E H2 op t v w = (binV E H op t v w).setH H2 := by
  have e1 := fun u => deepen_agree hA (u := u) h
  have e2 := fun u => deepen_agree hA (u := u) h'
  unfold binV
  split
  · repeat' (split <;> first | rfl | contradiction | skip)
    unfold binI
    split <;> rfl
  · repeat' (split <;> first | rfl | contradiction | skip)
  · simp only [e1, e2]
    repeat' (split <;> first | rfl | contradiction | skip)
theorem unV_agree {op : UnOp} {v : V} : unV H2 op v = (unV H op v).setH H2 := by
  unfold unV
  repeat' (split <;> first | rfl | contradiction | skip)
end
end Go.Proofs.YtdfhopakojmjkaaDoor.Den
