/- The pure law HeapDoes. -/
import Derived.Test.YtdfhopakojmjkaaDoorDfnRi
import Derived.Test.YtdfhopakojmjkaaDoorDfnQHeapForms
namespace Go.Proofs.YtdfhopakojmjkaaDoor.Dfn
open Go
set_option linter.unusedVariables false
set_option linter.unusedSimpArgs false
set_option maxRecDepth 100000

theorem heapDoes_pure : ∀ x, Good (.cons cHeap cVal) x → flotsamlaw07_HeapDoes x = some (true, ()) := by
  rintro ⟨(h : Heap), (a : Int), (b : Int), ⟨⟩⟩ ⟨gh, ga, gb⟩
  have gh : Good cHeap h := gh
  have ga : (-9223372036854775808 : Int) ≤ a ∧ a ≤ 9223372036854775807 := ga
  simp only [flotsamlaw07_HeapDoes, flotsamlaw07_HeapDoes_r, awake07, Option.bind_some, Bool.not_true, cond_false, form_eq gh]
  cases hb : formB h
  · rfl
  have q := hp_of gh hb
  obtain ⟨g1, b1, e1, e1', q1⟩ := open_same q a b
  obtain ⟨g2, b2, e2, e2', q2⟩ := close_same q a
  obtain ⟨g3, b3, e3, e3', q3⟩ := free_same q (a := a) ga.1 (by omega)
  obtain ⟨g4, a4, b4, e4, e4', q4⟩ := lay_same q a b
  simp only [e1, e1', e2, e2', e3, e3', e4, e4', same7_self q1.f, same7_self q2.f, same7_self q3.f, same7_self q4.f, Option.bind_some, Bool.not_true, cond_false, cond_true, beq_self_eq_true]
end Go.Proofs.YtdfhopakojmjkaaDoor.Dfn
