/- What functions come to. Printed by a program of this session. -/
import Derived.Test.YtdfhopakojmjkaaDoorDfkF3
namespace Go.Proofs.YtdfhopakojmjkaaDoor.Dfk
open Go
set_option maxRecDepth 100000
set_option linter.unusedVariables false
/-! ### flotsam/flotsamlaw07.HeapDoes -/
def flotsamlaw07_HeapDoes_r (a0 : Heap) (a1 : Int) (a2 : Int) : Option (Bool × Unit) :=
  (flotsamlaw07_awake ()).bind fun y1 =>
  bif !y1.1 then
    (flotsamlaw07_awake ()).bind fun y2 =>
    some (y2.1, ())
  else
  (flotsamref07_Form (a0, ())).bind fun y3 =>
  bif !y3.1 then
    (flotsamlaw07_awake ()).bind fun y4 =>
    some (y4.1, ())
  else
  (heap_Open (a0, a1, a2, ())).bind fun y5 =>
  (flotsamref07_Open (a0, a1, a2, ())).bind fun y6 =>
  (flotsamref07_Same (y5.1, y6.1, ())).bind fun y7 =>
  bif !y7.1 then
    some (false, ())
  else
  bif !(y5.2.1 == y6.2.1) then
    some (false, ())
  else
  (heap_Close (a0, a1, ())).bind fun y8 =>
  (flotsamref07_Close (a0, a1, ())).bind fun y9 =>
  (flotsamref07_Same (y8.1, y9.1, ())).bind fun y10 =>
  bif !y10.1 then
    some (false, ())
  else
  bif !(y8.2.1 == y9.2.1) then
    some (false, ())
  else
  (heap_Free (a0, a1, ())).bind fun y11 =>
  (flotsamref07_Free (a0, a1, ())).bind fun y12 =>
  (flotsamref07_Same (y11.1, y12.1, ())).bind fun y13 =>
  bif !y13.1 then
    some (false, ())
  else
  bif !(y11.2.1 == y12.2.1) then
    some (false, ())
  else
  (heap_Lay (a0, a1, a2, ())).bind fun y14 =>
  (flotsamref07_Lay (a0, a1, a2, ())).bind fun y15 =>
  (flotsamref07_Same (y14.1, y15.1, ())).bind fun y16 =>
  bif y16.1 then
    bif y14.2.1 == y15.2.1 then
      some (y14.2.2.1 == y15.2.2.1, ())
    else
    some (false, ())
  else
  some (false, ())
def flotsamlaw07_HeapDoes (x : Heap × Val) : Option (Bool × Unit) := flotsamlaw07_HeapDoes_r x.1 x.2.1 x.2.2.1
noncomputable def flotsamlaw07_HeapDoes_sm : Sum := ⟨(.cons cHeap cVal), (.cons (.d .bool) .nil), flotsamlaw07_HeapDoes⟩
noncomputable def flotsamlaw07_HeapDoes_S : List (Nat × Sum) := [(21, flotsamref07_Form_sm), (31, flotsamref07_Same_sm), (43, flotsamlaw07_awake_sm), (51, heap_Open_sm), (52, flotsamref07_Open_sm), (53, heap_Close_sm), (54, flotsamref07_Close_sm), (55, heap_Free_sm), (56, flotsamref07_Free_sm), (57, heap_Lay_sm), (58, flotsamref07_Lay_sm)]
noncomputable def flotsamlaw07_HeapDoes_fl : List (Nat × Func) := []
noncomputable def flotsamlaw07_HeapDoes_es : List AE := []
theorem flotsamlaw07_HeapDoes_den : (fun x => denFun TEv (look1 flotsamlaw07_HeapDoes_S) (look1 flotsamlaw07_HeapDoes_fl) (annOf flotsamlaw07_HeapDoes_es) 8 11 Go.Proofs.Tryd.f11 flotsamlaw07_HeapDoes_sm.a flotsamlaw07_HeapDoes_sm.r x) = flotsamlaw07_HeapDoes_sm.F := by kernel_rfl
theorem flotsamlaw07_HeapDoes_sem : SemOf Go.Proofs.Tryd.prog 11 flotsamlaw07_HeapDoes_sm :=
  semMk teOk (sl := flotsamlaw07_HeapDoes_S) (all_cons flotsamref07_Form_sem (all_cons flotsamref07_Same_sem (all_cons flotsamlaw07_awake_sem (all_cons heap_Open_sem (all_cons flotsamref07_Open_sem (all_cons heap_Close_sem (all_cons flotsamref07_Close_sem (all_cons heap_Free_sem (all_cons flotsamref07_Free_sem (all_cons heap_Lay_sem (all_cons flotsamref07_Lay_sem all_nil))))))))))) (fl := flotsamlaw07_HeapDoes_fl) (all_nil) (es := flotsamlaw07_HeapDoes_es) Go.Proofs.Tryd.func11 (by kernel_rfl) rfl (all_nil) rfl flotsamlaw07_HeapDoes_den

/-! ### flotsam/flotsamlaw07.HeapKeeps -/
def flotsamlaw07_HeapKeeps_ooo_s0r (v1 : Int) (v2 : Int) (v9 : Bool) (v12 : Bool) (v14 : Bool) (v15 : Int) (c0 : Heap) (c320 : Bool × Unit) (c464 : Bool × Unit) (c640 : Bool × Unit) (c800 : Bool × Unit) (r192 : List Int) (r256 : List Span) (r400 : List Int) (r401 : List Span) (r560 : List Int) (r561 : List Span) (r736 : List Int) (r737 : List Span) : Option (SRes (.cons cI (.cons cI (.cons .bool (.cons .bool (.cons .bool (.cons cI (.cons cHeap (.cons (.cons .bool .nil) (.cons (.cons .bool .nil) (.cons (.cons .bool .nil) (.cons (.cons .bool .nil) (.cons (.sl (.int .u64)) (.cons (.sl cSpan) (.cons (.sl (.int .u64)) (.cons (.sl cSpan) (.cons (.sl (.int .u64)) (.cons (.sl cSpan) (.cons (.sl (.int .u64)) (.cons (.sl cSpan) .nil))))))))))))))))))) (.cons cI (.cons cI (.cons .bool (.cons .bool (.cons .bool (.cons cHeap (.cons (.cons .bool .nil) (.cons (.cons .bool .nil) (.cons (.cons .bool .nil) (.cons (.cons .bool .nil) (.cons (.sl (.int .u64)) (.cons (.sl cSpan) (.cons (.sl (.int .u64)) (.cons (.sl cSpan) (.cons (.sl (.int .u64)) (.cons (.sl cSpan) (.cons (.sl (.int .u64)) (.cons (.sl cSpan) .nil)))))))))))))))))) .nil) :=
  bif decide (v15 < (r192.length : Int)) then
    bif decide (0 ≤ v15) then
      bif decide (v15 < (r192.length : Int)) then
        some (.next (v1, v2, v9, v12, v14, wi64 (v15 + 1), c0, c320, c464, c640, c800, r192.set v15.toNat 77, r256, r400, r401, r560, r561, r736, r737, ()))
      else none
    else none
  else
  some (.fin (.out (v1, v2, v9, v12, v14, c0, c320, c464, c640, c800, r192, r256, r400, r401, r560, r561, r736, r737, ())))
def flotsamlaw07_HeapKeeps_ooo_s0 (x : Int × Int × Bool × Bool × Bool × Int × Heap × (Bool × Unit) × (Bool × Unit) × (Bool × Unit) × (Bool × Unit) × (List Int) × (List Span) × (List Int) × (List Span) × (List Int) × (List Span) × (List Int) × (List Span) × Unit) : Option (SRes (.cons cI (.cons cI (.cons .bool (.cons .bool (.cons .bool (.cons cI (.cons cHeap (.cons (.cons .bool .nil) (.cons (.cons .bool .nil) (.cons (.cons .bool .nil) (.cons (.cons .bool .nil) (.cons (.sl (.int .u64)) (.cons (.sl cSpan) (.cons (.sl (.int .u64)) (.cons (.sl cSpan) (.cons (.sl (.int .u64)) (.cons (.sl cSpan) (.cons (.sl (.int .u64)) (.cons (.sl cSpan) .nil))))))))))))))))))) (.cons cI (.cons cI (.cons .bool (.cons .bool (.cons .bool (.cons cHeap (.cons (.cons .bool .nil) (.cons (.cons .bool .nil) (.cons (.cons .bool .nil) (.cons (.cons .bool .nil) (.cons (.sl (.int .u64)) (.cons (.sl cSpan) (.cons (.sl (.int .u64)) (.cons (.sl cSpan) (.cons (.sl (.int .u64)) (.cons (.sl cSpan) (.cons (.sl (.int .u64)) (.cons (.sl cSpan) .nil)))))))))))))))))) .nil) := flotsamlaw07_HeapKeeps_ooo_s0r x.1 x.2.1 x.2.2.1 x.2.2.2.1 x.2.2.2.2.1 x.2.2.2.2.2.1 x.2.2.2.2.2.2.1 x.2.2.2.2.2.2.2.1 x.2.2.2.2.2.2.2.2.1 x.2.2.2.2.2.2.2.2.2.1 x.2.2.2.2.2.2.2.2.2.2.1 x.2.2.2.2.2.2.2.2.2.2.2.1 x.2.2.2.2.2.2.2.2.2.2.2.2.1 x.2.2.2.2.2.2.2.2.2.2.2.2.2.1 x.2.2.2.2.2.2.2.2.2.2.2.2.2.2.1 x.2.2.2.2.2.2.2.2.2.2.2.2.2.2.2.1 x.2.2.2.2.2.2.2.2.2.2.2.2.2.2.2.2.1 x.2.2.2.2.2.2.2.2.2.2.2.2.2.2.2.2.2.1 x.2.2.2.2.2.2.2.2.2.2.2.2.2.2.2.2.2.2.1
def flotsamlaw07_HeapKeeps_ooo_l0 (x : Int × Int × Bool × Bool × Bool × Int × Heap × (Bool × Unit) × (Bool × Unit) × (Bool × Unit) × (Bool × Unit) × (List Int) × (List Span) × (List Int) × (List Span) × (List Int) × (List Span) × (List Int) × (List Span) × Unit) : Option (LRes (.cons cI (.cons cI (.cons .bool (.cons .bool (.cons .bool (.cons cHeap (.cons (.cons .bool .nil) (.cons (.cons .bool .nil) (.cons (.cons .bool .nil) (.cons (.cons .bool .nil) (.cons (.sl (.int .u64)) (.cons (.sl cSpan) (.cons (.sl (.int .u64)) (.cons (.sl cSpan) (.cons (.sl (.int .u64)) (.cons (.sl cSpan) (.cons (.sl (.int .u64)) (.cons (.sl cSpan) .nil)))))))))))))))))) .nil) := iterL (h := (.cons cI (.cons cI (.cons .bool (.cons .bool (.cons .bool (.cons cI (.cons cHeap (.cons (.cons .bool .nil) (.cons (.cons .bool .nil) (.cons (.cons .bool .nil) (.cons (.cons .bool .nil) (.cons (.sl (.int .u64)) (.cons (.sl cSpan) (.cons (.sl (.int .u64)) (.cons (.sl cSpan) (.cons (.sl (.int .u64)) (.cons (.sl cSpan) (.cons (.sl (.int .u64)) (.cons (.sl cSpan) .nil)))))))))))))))))))) (o := (.cons cI (.cons cI (.cons .bool (.cons .bool (.cons .bool (.cons cHeap (.cons (.cons .bool .nil) (.cons (.cons .bool .nil) (.cons (.cons .bool .nil) (.cons (.cons .bool .nil) (.cons (.sl (.int .u64)) (.cons (.sl cSpan) (.cons (.sl (.int .u64)) (.cons (.sl cSpan) (.cons (.sl (.int .u64)) (.cons (.sl cSpan) (.cons (.sl (.int .u64)) (.cons (.sl cSpan) .nil))))))))))))))))))) (r := .nil) flotsamlaw07_HeapKeeps_ooo_s0 9223372036854775808 x
def flotsamlaw07_HeapKeeps_ooo_s1r (v1 : Int) (v2 : Int) (v9 : Bool) (v12 : Bool) (v14 : Bool) (v16 : Int) (c0 : Heap) (c320 : Bool × Unit) (c464 : Bool × Unit) (c640 : Bool × Unit) (c800 : Bool × Unit) (r192 : List Int) (r256 : List Span) (r400 : List Int) (r401 : List Span) (r560 : List Int) (r561 : List Span) (r736 : List Int) (r737 : List Span) : Option (SRes (.cons cI (.cons cI (.cons .bool (.cons .bool (.cons .bool (.cons cI (.cons cHeap (.cons (.cons .bool .nil) (.cons (.cons .bool .nil) (.cons (.cons .bool .nil) (.cons (.cons .bool .nil) (.cons (.sl (.int .u64)) (.cons (.sl cSpan) (.cons (.sl (.int .u64)) (.cons (.sl cSpan) (.cons (.sl (.int .u64)) (.cons (.sl cSpan) (.cons (.sl (.int .u64)) (.cons (.sl cSpan) .nil))))))))))))))))))) (.cons cI (.cons cI (.cons .bool (.cons .bool (.cons .bool (.cons cHeap (.cons (.cons .bool .nil) (.cons (.cons .bool .nil) (.cons (.cons .bool .nil) (.cons (.sl (.int .u64)) (.cons (.sl cSpan) (.cons (.sl (.int .u64)) (.cons (.sl cSpan) (.cons (.sl (.int .u64)) (.cons (.sl cSpan) .nil))))))))))))))) .nil) :=
  bif decide (v16 < (r256.length : Int)) then
    bif decide (0 ≤ v16) then
      bif decide (v16 < (r256.length : Int)) then
        some (.next (v1, v2, v9, v12, v14, wi64 (v16 + 1), c0, c320, c464, c640, c800, r192, r256.set v16.toNat (9, 0, 0, ()), r400, r401, r560, r561, r736, r737, ()))
      else none
    else none
  else
  some (.fin (.out (v1, v2, v9, v12, v14, c0, c464, c640, c800, r400, r401, r560, r561, r736, r737, ())))
def flotsamlaw07_HeapKeeps_ooo_s1 (x : Int × Int × Bool × Bool × Bool × Int × Heap × (Bool × Unit) × (Bool × Unit) × (Bool × Unit) × (Bool × Unit) × (List Int) × (List Span) × (List Int) × (List Span) × (List Int) × (List Span) × (List Int) × (List Span) × Unit) : Option (SRes (.cons cI (.cons cI (.cons .bool (.cons .bool (.cons .bool (.cons cI (.cons cHeap (.cons (.cons .bool .nil) (.cons (.cons .bool .nil) (.cons (.cons .bool .nil) (.cons (.cons .bool .nil) (.cons (.sl (.int .u64)) (.cons (.sl cSpan) (.cons (.sl (.int .u64)) (.cons (.sl cSpan) (.cons (.sl (.int .u64)) (.cons (.sl cSpan) (.cons (.sl (.int .u64)) (.cons (.sl cSpan) .nil))))))))))))))))))) (.cons cI (.cons cI (.cons .bool (.cons .bool (.cons .bool (.cons cHeap (.cons (.cons .bool .nil) (.cons (.cons .bool .nil) (.cons (.cons .bool .nil) (.cons (.sl (.int .u64)) (.cons (.sl cSpan) (.cons (.sl (.int .u64)) (.cons (.sl cSpan) (.cons (.sl (.int .u64)) (.cons (.sl cSpan) .nil))))))))))))))) .nil) := flotsamlaw07_HeapKeeps_ooo_s1r x.1 x.2.1 x.2.2.1 x.2.2.2.1 x.2.2.2.2.1 x.2.2.2.2.2.1 x.2.2.2.2.2.2.1 x.2.2.2.2.2.2.2.1 x.2.2.2.2.2.2.2.2.1 x.2.2.2.2.2.2.2.2.2.1 x.2.2.2.2.2.2.2.2.2.2.1 x.2.2.2.2.2.2.2.2.2.2.2.1 x.2.2.2.2.2.2.2.2.2.2.2.2.1 x.2.2.2.2.2.2.2.2.2.2.2.2.2.1 x.2.2.2.2.2.2.2.2.2.2.2.2.2.2.1 x.2.2.2.2.2.2.2.2.2.2.2.2.2.2.2.1 x.2.2.2.2.2.2.2.2.2.2.2.2.2.2.2.2.1 x.2.2.2.2.2.2.2.2.2.2.2.2.2.2.2.2.2.1 x.2.2.2.2.2.2.2.2.2.2.2.2.2.2.2.2.2.2.1
def flotsamlaw07_HeapKeeps_ooo_l1 (x : Int × Int × Bool × Bool × Bool × Int × Heap × (Bool × Unit) × (Bool × Unit) × (Bool × Unit) × (Bool × Unit) × (List Int) × (List Span) × (List Int) × (List Span) × (List Int) × (List Span) × (List Int) × (List Span) × Unit) : Option (LRes (.cons cI (.cons cI (.cons .bool (.cons .bool (.cons .bool (.cons cHeap (.cons (.cons .bool .nil) (.cons (.cons .bool .nil) (.cons (.cons .bool .nil) (.cons (.sl (.int .u64)) (.cons (.sl cSpan) (.cons (.sl (.int .u64)) (.cons (.sl cSpan) (.cons (.sl (.int .u64)) (.cons (.sl cSpan) .nil))))))))))))))) .nil) := iterL (h := (.cons cI (.cons cI (.cons .bool (.cons .bool (.cons .bool (.cons cI (.cons cHeap (.cons (.cons .bool .nil) (.cons (.cons .bool .nil) (.cons (.cons .bool .nil) (.cons (.cons .bool .nil) (.cons (.sl (.int .u64)) (.cons (.sl cSpan) (.cons (.sl (.int .u64)) (.cons (.sl cSpan) (.cons (.sl (.int .u64)) (.cons (.sl cSpan) (.cons (.sl (.int .u64)) (.cons (.sl cSpan) .nil)))))))))))))))))))) (o := (.cons cI (.cons cI (.cons .bool (.cons .bool (.cons .bool (.cons cHeap (.cons (.cons .bool .nil) (.cons (.cons .bool .nil) (.cons (.cons .bool .nil) (.cons (.sl (.int .u64)) (.cons (.sl cSpan) (.cons (.sl (.int .u64)) (.cons (.sl cSpan) (.cons (.sl (.int .u64)) (.cons (.sl cSpan) .nil)))))))))))))))) (r := .nil) flotsamlaw07_HeapKeeps_ooo_s1 9223372036854775808 x
def flotsamlaw07_HeapKeeps_ooo_r (a0 : Heap) (a1 : Int) (a2 : Int) : Option (Bool × Unit) :=
  (flotsamlaw07_awake ()).bind fun y1 =>
  bif !y1.1 then
    (flotsamlaw07_awake ()).bind fun y2 =>
    some (y2.1, ())
  else
  (flotsamref07_Form (a0, ())).bind fun y3 =>
  bif !y3.1 then
    (flotsamlaw07_awake ()).bind fun y4 =>
    some (y4.1, ())
  else
  bif decide ((0 + a0.1.length) * 8 ≤ 140737488355328) then
    bif decide ((0 + a0.2.1.length) * 24 ≤ 140737488355328) then
      (heap_Open_o ((a0.1, a0.2.1, a0.2.2.1, ()), a1, a2, ())).bind fun y5 =>
      (heap_Lay_o ((a0.1, a0.2.1, a0.2.2.1, ()), a1, a2, ())).bind fun y6 =>
      (heap_Free_o ((a0.1, a0.2.1, a0.2.2.1, ()), a1, ())).bind fun y7 =>
      (heap_Close_n ((a0.1, a0.2.1, a0.2.2.1, ()), a1, ())).bind fun y8 =>
      (flotsamref07_Same ((a0.1, a0.2.1, a0.2.2.1, ()), a0, ())).bind fun y9 =>
      bif !y9.1 then
        some (false, ())
      else
      (flotsamlaw07_HeapKeeps_ooo_l0 (a1, a2, y5.2.1, y6.2.2.1, y7.2.1, 0, a0, (a0.2.2.1, ()), y5.1.2.2, y6.1.2.2, y7.1.2.2, a0.1, a0.2.1, y5.1.1, y5.1.2.1, y6.1.1, y6.1.2.1, y7.1.1, y7.1.2.1, ())).bind fun s10 => match s10 with
      | .out s10 =>
        (flotsamlaw07_HeapKeeps_ooo_l1 (s10.1, s10.2.1, s10.2.2.1, s10.2.2.2.1, s10.2.2.2.2.1, 0, s10.2.2.2.2.2.1, s10.2.2.2.2.2.2.1, s10.2.2.2.2.2.2.2.1, s10.2.2.2.2.2.2.2.2.1, s10.2.2.2.2.2.2.2.2.2.1, s10.2.2.2.2.2.2.2.2.2.2.1, s10.2.2.2.2.2.2.2.2.2.2.2.1, s10.2.2.2.2.2.2.2.2.2.2.2.2.1, s10.2.2.2.2.2.2.2.2.2.2.2.2.2.1, s10.2.2.2.2.2.2.2.2.2.2.2.2.2.2.1, s10.2.2.2.2.2.2.2.2.2.2.2.2.2.2.2.1, s10.2.2.2.2.2.2.2.2.2.2.2.2.2.2.2.2.1, s10.2.2.2.2.2.2.2.2.2.2.2.2.2.2.2.2.2.1, ())).bind fun s11 => match s11 with
        | .out s11 =>
          (flotsamref07_Open (s11.2.2.2.2.2.1, s11.1, s11.2.1, ())).bind fun y12 =>
          (flotsamref07_Lay (s11.2.2.2.2.2.1, s11.1, s11.2.1, ())).bind fun y13 =>
          (flotsamref07_Free (s11.2.2.2.2.2.1, s11.1, ())).bind fun y14 =>
          bif !s11.2.2.1 then
            bif !s11.2.2.2.1 then
              bif !s11.2.2.2.2.1 then
                some (true, ())
              else
              (flotsamref07_Same ((s11.2.2.2.2.2.2.2.2.2.2.2.2.2.1, s11.2.2.2.2.2.2.2.2.2.2.2.2.2.2.1, s11.2.2.2.2.2.2.2.2.1), y14.1, ())).bind fun y15 =>
              some (y15.1, ())
            else
            (flotsamref07_Same ((s11.2.2.2.2.2.2.2.2.2.2.2.1, s11.2.2.2.2.2.2.2.2.2.2.2.2.1, s11.2.2.2.2.2.2.2.1), y13.1, ())).bind fun y16 =>
            bif y16.1 then
              bif !s11.2.2.2.2.1 then
                some (true, ())
              else
              (flotsamref07_Same ((s11.2.2.2.2.2.2.2.2.2.2.2.2.2.1, s11.2.2.2.2.2.2.2.2.2.2.2.2.2.2.1, s11.2.2.2.2.2.2.2.2.1), y14.1, ())).bind fun y17 =>
              some (y17.1, ())
            else
            some (false, ())
          else
          (flotsamref07_Same ((s11.2.2.2.2.2.2.2.2.2.1, s11.2.2.2.2.2.2.2.2.2.2.1, s11.2.2.2.2.2.2.1), y12.1, ())).bind fun y18 =>
          bif y18.1 then
            bif !s11.2.2.2.1 then
              bif !s11.2.2.2.2.1 then
                some (true, ())
              else
              (flotsamref07_Same ((s11.2.2.2.2.2.2.2.2.2.2.2.2.2.1, s11.2.2.2.2.2.2.2.2.2.2.2.2.2.2.1, s11.2.2.2.2.2.2.2.2.1), y14.1, ())).bind fun y19 =>
              some (y19.1, ())
            else
            (flotsamref07_Same ((s11.2.2.2.2.2.2.2.2.2.2.2.1, s11.2.2.2.2.2.2.2.2.2.2.2.2.1, s11.2.2.2.2.2.2.2.1), y13.1, ())).bind fun y20 =>
            bif y20.1 then
              bif !s11.2.2.2.2.1 then
                some (true, ())
              else
              (flotsamref07_Same ((s11.2.2.2.2.2.2.2.2.2.2.2.2.2.1, s11.2.2.2.2.2.2.2.2.2.2.2.2.2.2.1, s11.2.2.2.2.2.2.2.2.1), y14.1, ())).bind fun y21 =>
              some (y21.1, ())
            else
            some (false, ())
          else
          some (false, ())
        | .ret s11 =>
          none
      | .ret s10 =>
        none
    else none
  else none
def flotsamlaw07_HeapKeeps_ooo (x : Heap × Val) : Option (Bool × Unit) := flotsamlaw07_HeapKeeps_ooo_r x.1 x.2.1 x.2.2.1
noncomputable def flotsamlaw07_HeapKeeps_ooo_sm : Sum := ⟨(.cons cHeap cVal), (.cons (.d .bool) .nil), flotsamlaw07_HeapKeeps_ooo⟩
noncomputable def flotsamlaw07_HeapKeeps_ooo_L0 : LoopSum := { hc := ⟨[], [1, 2, 3, 7, 8, 9, 10, 12, 13, 14, 15], [], [], [0, 320, 464, 640, 800], [192, 256, 400, 401, 560, 561, 736, 737], 976⟩, h := ⟨[(1, (.d cI)), (2, (.d cI)), (3, (.pvar 0 [])), (7, (.pvar 320 [])), (8, (.pvar 464 [])), (9, (.d .bool)), (10, (.pvar 640 [])), (12, (.d .bool)), (13, (.pvar 800 [])), (14, (.d .bool)), (15, (.d cI))], [(0, (.d cHeap)), (320, (.cons (.row 192) (.cons (.row 256) (.d (.cons .bool .nil))))), (464, (.cons (.row 400) (.cons (.row 401) (.d (.cons .bool .nil))))), (640, (.cons (.row 560) (.cons (.row 561) (.d (.cons .bool .nil))))), (800, (.cons (.row 736) (.cons (.row 737) (.d (.cons .bool .nil)))))], [(192, (.int .u64), true), (256, cSpan, true), (400, (.int .u64), true), (401, cSpan, true), (560, (.int .u64), true), (561, cSpan, true), (736, (.int .u64), true), (737, cSpan, true)], 976⟩, xid := 0, oc := ⟨[], [1, 2, 3, 7, 8, 9, 10, 12, 13, 14], [], [], [0, 320, 464, 640, 800], [192, 256, 400, 401, 560, 561, 736, 737], 976⟩, o := ⟨[(1, (.d cI)), (2, (.d cI)), (3, (.pvar 0 [])), (7, (.pvar 320 [])), (8, (.pvar 464 [])), (9, (.d .bool)), (10, (.pvar 640 [])), (12, (.d .bool)), (13, (.pvar 800 [])), (14, (.d .bool))], [(0, (.d cHeap)), (320, (.cons (.row 192) (.cons (.row 256) (.d (.cons .bool .nil))))), (464, (.cons (.row 400) (.cons (.row 401) (.d (.cons .bool .nil))))), (640, (.cons (.row 560) (.cons (.row 561) (.d (.cons .bool .nil))))), (800, (.cons (.row 736) (.cons (.row 737) (.d (.cons .bool .nil)))))], [(192, (.int .u64), true), (256, cSpan, true), (400, (.int .u64), true), (401, cSpan, true), (560, (.int .u64), true), (561, cSpan, true), (736, (.int .u64), true), (737, cSpan, true)], 976⟩, rc := ⟨[], [], [], [], [], [], 976⟩, r := ⟨[], [], [], 976⟩, F := flotsamlaw07_HeapKeeps_ooo_l0 }
noncomputable def flotsamlaw07_HeapKeeps_ooo_L1 : LoopSum := { hc := ⟨[], [1, 2, 3, 7, 8, 9, 10, 12, 13, 14, 16], [], [], [0, 320, 464, 640, 800], [192, 256, 400, 401, 560, 561, 736, 737], 992⟩, h := ⟨[(1, (.d cI)), (2, (.d cI)), (3, (.pvar 0 [])), (7, (.pvar 320 [])), (8, (.pvar 464 [])), (9, (.d .bool)), (10, (.pvar 640 [])), (12, (.d .bool)), (13, (.pvar 800 [])), (14, (.d .bool)), (16, (.d cI))], [(0, (.d cHeap)), (320, (.cons (.row 192) (.cons (.row 256) (.d (.cons .bool .nil))))), (464, (.cons (.row 400) (.cons (.row 401) (.d (.cons .bool .nil))))), (640, (.cons (.row 560) (.cons (.row 561) (.d (.cons .bool .nil))))), (800, (.cons (.row 736) (.cons (.row 737) (.d (.cons .bool .nil)))))], [(192, (.int .u64), true), (256, cSpan, true), (400, (.int .u64), true), (401, cSpan, true), (560, (.int .u64), true), (561, cSpan, true), (736, (.int .u64), true), (737, cSpan, true)], 992⟩, xid := 2, oc := ⟨[], [1, 2, 3, 8, 9, 10, 12, 13, 14], [], [], [0, 464, 640, 800], [400, 401, 560, 561, 736, 737], 992⟩, o := ⟨[(1, (.d cI)), (2, (.d cI)), (3, (.pvar 0 [])), (8, (.pvar 464 [])), (9, (.d .bool)), (10, (.pvar 640 [])), (12, (.d .bool)), (13, (.pvar 800 [])), (14, (.d .bool))], [(0, (.d cHeap)), (464, (.cons (.row 400) (.cons (.row 401) (.d (.cons .bool .nil))))), (640, (.cons (.row 560) (.cons (.row 561) (.d (.cons .bool .nil))))), (800, (.cons (.row 736) (.cons (.row 737) (.d (.cons .bool .nil)))))], [(400, (.int .u64), true), (401, cSpan, true), (560, (.int .u64), true), (561, cSpan, true), (736, (.int .u64), true), (737, cSpan, true)], 992⟩, rc := ⟨[], [], [], [], [], [], 992⟩, r := ⟨[], [], [], 992⟩, F := flotsamlaw07_HeapKeeps_ooo_l1 }
noncomputable def flotsamlaw07_HeapKeeps_ooo_S : List (Nat × Sum) := [(21, flotsamref07_Form_sm), (31, flotsamref07_Same_sm), (43, flotsamlaw07_awake_sm), (51, heap_Open_o_sm), (52, flotsamref07_Open_sm), (53, heap_Close_n_sm), (55, heap_Free_o_sm), (56, flotsamref07_Free_sm), (57, heap_Lay_o_sm), (58, flotsamref07_Lay_sm)]
noncomputable def flotsamlaw07_HeapKeeps_ooo_fl : List (Nat × Func) := []
noncomputable def flotsamlaw07_HeapKeeps_ooo_es : List AE := [⟨8, 13, 0, 0, flotsamlaw07_HeapKeeps_ooo_L0⟩, ⟨8, 13, 0, 2, flotsamlaw07_HeapKeeps_ooo_L1⟩]
theorem flotsamlaw07_HeapKeeps_ooo_den0 : (fun x => denStep TEv (look1 flotsamlaw07_HeapKeeps_ooo_S) (look1 flotsamlaw07_HeapKeeps_ooo_fl) (annOf flotsamlaw07_HeapKeeps_ooo_es) 8 13 Go.Proofs.Tryd.f13.ntmps 0 (cat (bodyOf Go.Proofs.Tryd.f13) [true, true, true, true, true, true, true, true, false, true, false, false]) flotsamlaw07_HeapKeeps_ooo_L0 x) = flotsamlaw07_HeapKeeps_ooo_s0 := by kernel_rfl
theorem flotsamlaw07_HeapKeeps_ooo_den1 : (fun x => denStep TEv (look1 flotsamlaw07_HeapKeeps_ooo_S) (look1 flotsamlaw07_HeapKeeps_ooo_fl) (annOf flotsamlaw07_HeapKeeps_ooo_es) 8 13 Go.Proofs.Tryd.f13.ntmps 0 (cat (bodyOf Go.Proofs.Tryd.f13) [true, true, true, true, true, true, true, true, true, false, true, false, false]) flotsamlaw07_HeapKeeps_ooo_L1 x) = flotsamlaw07_HeapKeeps_ooo_s1 := by kernel_rfl
theorem flotsamlaw07_HeapKeeps_ooo_den : (fun x => denFun TEv (look1 flotsamlaw07_HeapKeeps_ooo_S) (look1 flotsamlaw07_HeapKeeps_ooo_fl) (annOf flotsamlaw07_HeapKeeps_ooo_es) 8 13 Go.Proofs.Tryd.f13 flotsamlaw07_HeapKeeps_ooo_sm.a flotsamlaw07_HeapKeeps_ooo_sm.r x) = flotsamlaw07_HeapKeeps_ooo_sm.F := by kernel_rfl
theorem flotsamlaw07_HeapKeeps_ooo_ok0 : AEok Go.Proofs.Tryd.prog TEv (look1 flotsamlaw07_HeapKeeps_ooo_S) (look1 flotsamlaw07_HeapKeeps_ooo_fl) (annOf flotsamlaw07_HeapKeeps_ooo_es) ⟨8, 13, 0, 0, flotsamlaw07_HeapKeeps_ooo_L0⟩ := aeok_of 9223372036854775808 Go.Proofs.Tryd.func13 (by kernel_rfl) flotsamlaw07_HeapKeeps_ooo_den0 (by kernel_rfl)
theorem flotsamlaw07_HeapKeeps_ooo_ok1 : AEok Go.Proofs.Tryd.prog TEv (look1 flotsamlaw07_HeapKeeps_ooo_S) (look1 flotsamlaw07_HeapKeeps_ooo_fl) (annOf flotsamlaw07_HeapKeeps_ooo_es) ⟨8, 13, 0, 2, flotsamlaw07_HeapKeeps_ooo_L1⟩ := aeok_of 9223372036854775808 Go.Proofs.Tryd.func13 (by kernel_rfl) flotsamlaw07_HeapKeeps_ooo_den1 (by kernel_rfl)
theorem flotsamlaw07_HeapKeeps_ooo_sem : SemOf Go.Proofs.Tryd.prog 13 flotsamlaw07_HeapKeeps_ooo_sm :=
  semMk teOk (sl := flotsamlaw07_HeapKeeps_ooo_S) (all_cons flotsamref07_Form_sem (all_cons flotsamref07_Same_sem (all_cons flotsamlaw07_awake_sem (all_cons heap_Open_o_sem (all_cons flotsamref07_Open_sem (all_cons heap_Close_n_sem (all_cons heap_Free_o_sem (all_cons flotsamref07_Free_sem (all_cons heap_Lay_o_sem (all_cons flotsamref07_Lay_sem all_nil)))))))))) (fl := flotsamlaw07_HeapKeeps_ooo_fl) (all_nil) (es := flotsamlaw07_HeapKeeps_ooo_es) Go.Proofs.Tryd.func13 (by kernel_rfl) rfl (all_cons flotsamlaw07_HeapKeeps_ooo_ok0 (all_cons flotsamlaw07_HeapKeeps_ooo_ok1 (all_nil))) rfl flotsamlaw07_HeapKeeps_ooo_den

/-! ### flotsam/flotsamlaw07.HeapKeeps -/
def flotsamlaw07_HeapKeeps_oon_s0r (v1 : Int) (v2 : Int) (v9 : Bool) (v12 : Bool) (v14 : Bool) (v15 : Int) (c0 : Heap) (c320 : Bool × Unit) (c464 : Bool × Unit) (c640 : Bool × Unit) (c800 : Unit) (r192 : List Int) (r256 : List Span) (r400 : List Int) (r401 : List Span) (r560 : List Int) (r561 : List Span) : Option (SRes (.cons cI (.cons cI (.cons .bool (.cons .bool (.cons .bool (.cons cI (.cons cHeap (.cons (.cons .bool .nil) (.cons (.cons .bool .nil) (.cons (.cons .bool .nil) (.cons .nil (.cons (.sl (.int .u64)) (.cons (.sl cSpan) (.cons (.sl (.int .u64)) (.cons (.sl cSpan) (.cons (.sl (.int .u64)) (.cons (.sl cSpan) .nil))))))))))))))))) (.cons cI (.cons cI (.cons .bool (.cons .bool (.cons .bool (.cons cHeap (.cons (.cons .bool .nil) (.cons (.cons .bool .nil) (.cons (.cons .bool .nil) (.cons .nil (.cons (.sl (.int .u64)) (.cons (.sl cSpan) (.cons (.sl (.int .u64)) (.cons (.sl cSpan) (.cons (.sl (.int .u64)) (.cons (.sl cSpan) .nil)))))))))))))))) .nil) :=
  bif decide (v15 < (r192.length : Int)) then
    bif decide (0 ≤ v15) then
      bif decide (v15 < (r192.length : Int)) then
        some (.next (v1, v2, v9, v12, v14, wi64 (v15 + 1), c0, c320, c464, c640, c800, r192.set v15.toNat 77, r256, r400, r401, r560, r561, ()))
      else none
    else none
  else
  some (.fin (.out (v1, v2, v9, v12, v14, c0, c320, c464, c640, c800, r192, r256, r400, r401, r560, r561, ())))
def flotsamlaw07_HeapKeeps_oon_s0 (x : Int × Int × Bool × Bool × Bool × Int × Heap × (Bool × Unit) × (Bool × Unit) × (Bool × Unit) × Unit × (List Int) × (List Span) × (List Int) × (List Span) × (List Int) × (List Span) × Unit) : Option (SRes (.cons cI (.cons cI (.cons .bool (.cons .bool (.cons .bool (.cons cI (.cons cHeap (.cons (.cons .bool .nil) (.cons (.cons .bool .nil) (.cons (.cons .bool .nil) (.cons .nil (.cons (.sl (.int .u64)) (.cons (.sl cSpan) (.cons (.sl (.int .u64)) (.cons (.sl cSpan) (.cons (.sl (.int .u64)) (.cons (.sl cSpan) .nil))))))))))))))))) (.cons cI (.cons cI (.cons .bool (.cons .bool (.cons .bool (.cons cHeap (.cons (.cons .bool .nil) (.cons (.cons .bool .nil) (.cons (.cons .bool .nil) (.cons .nil (.cons (.sl (.int .u64)) (.cons (.sl cSpan) (.cons (.sl (.int .u64)) (.cons (.sl cSpan) (.cons (.sl (.int .u64)) (.cons (.sl cSpan) .nil)))))))))))))))) .nil) := flotsamlaw07_HeapKeeps_oon_s0r x.1 x.2.1 x.2.2.1 x.2.2.2.1 x.2.2.2.2.1 x.2.2.2.2.2.1 x.2.2.2.2.2.2.1 x.2.2.2.2.2.2.2.1 x.2.2.2.2.2.2.2.2.1 x.2.2.2.2.2.2.2.2.2.1 x.2.2.2.2.2.2.2.2.2.2.1 x.2.2.2.2.2.2.2.2.2.2.2.1 x.2.2.2.2.2.2.2.2.2.2.2.2.1 x.2.2.2.2.2.2.2.2.2.2.2.2.2.1 x.2.2.2.2.2.2.2.2.2.2.2.2.2.2.1 x.2.2.2.2.2.2.2.2.2.2.2.2.2.2.2.1 x.2.2.2.2.2.2.2.2.2.2.2.2.2.2.2.2.1
def flotsamlaw07_HeapKeeps_oon_l0 (x : Int × Int × Bool × Bool × Bool × Int × Heap × (Bool × Unit) × (Bool × Unit) × (Bool × Unit) × Unit × (List Int) × (List Span) × (List Int) × (List Span) × (List Int) × (List Span) × Unit) : Option (LRes (.cons cI (.cons cI (.cons .bool (.cons .bool (.cons .bool (.cons cHeap (.cons (.cons .bool .nil) (.cons (.cons .bool .nil) (.cons (.cons .bool .nil) (.cons .nil (.cons (.sl (.int .u64)) (.cons (.sl cSpan) (.cons (.sl (.int .u64)) (.cons (.sl cSpan) (.cons (.sl (.int .u64)) (.cons (.sl cSpan) .nil)))))))))))))))) .nil) := iterL (h := (.cons cI (.cons cI (.cons .bool (.cons .bool (.cons .bool (.cons cI (.cons cHeap (.cons (.cons .bool .nil) (.cons (.cons .bool .nil) (.cons (.cons .bool .nil) (.cons .nil (.cons (.sl (.int .u64)) (.cons (.sl cSpan) (.cons (.sl (.int .u64)) (.cons (.sl cSpan) (.cons (.sl (.int .u64)) (.cons (.sl cSpan) .nil)))))))))))))))))) (o := (.cons cI (.cons cI (.cons .bool (.cons .bool (.cons .bool (.cons cHeap (.cons (.cons .bool .nil) (.cons (.cons .bool .nil) (.cons (.cons .bool .nil) (.cons .nil (.cons (.sl (.int .u64)) (.cons (.sl cSpan) (.cons (.sl (.int .u64)) (.cons (.sl cSpan) (.cons (.sl (.int .u64)) (.cons (.sl cSpan) .nil))))))))))))))))) (r := .nil) flotsamlaw07_HeapKeeps_oon_s0 9223372036854775808 x
def flotsamlaw07_HeapKeeps_oon_s1r (v1 : Int) (v2 : Int) (v9 : Bool) (v12 : Bool) (v14 : Bool) (v16 : Int) (c0 : Heap) (c320 : Bool × Unit) (c464 : Bool × Unit) (c640 : Bool × Unit) (c800 : Unit) (r192 : List Int) (r256 : List Span) (r400 : List Int) (r401 : List Span) (r560 : List Int) (r561 : List Span) : Option (SRes (.cons cI (.cons cI (.cons .bool (.cons .bool (.cons .bool (.cons cI (.cons cHeap (.cons (.cons .bool .nil) (.cons (.cons .bool .nil) (.cons (.cons .bool .nil) (.cons .nil (.cons (.sl (.int .u64)) (.cons (.sl cSpan) (.cons (.sl (.int .u64)) (.cons (.sl cSpan) (.cons (.sl (.int .u64)) (.cons (.sl cSpan) .nil))))))))))))))))) (.cons cI (.cons cI (.cons .bool (.cons .bool (.cons .bool (.cons cHeap (.cons (.cons .bool .nil) (.cons (.cons .bool .nil) (.cons .nil (.cons (.sl (.int .u64)) (.cons (.sl cSpan) (.cons (.sl (.int .u64)) (.cons (.sl cSpan) .nil))))))))))))) .nil) :=
  bif decide (v16 < (r256.length : Int)) then
    bif decide (0 ≤ v16) then
      bif decide (v16 < (r256.length : Int)) then
        some (.next (v1, v2, v9, v12, v14, wi64 (v16 + 1), c0, c320, c464, c640, c800, r192, r256.set v16.toNat (9, 0, 0, ()), r400, r401, r560, r561, ()))
      else none
    else none
  else
  some (.fin (.out (v1, v2, v9, v12, v14, c0, c464, c640, c800, r400, r401, r560, r561, ())))
def flotsamlaw07_HeapKeeps_oon_s1 (x : Int × Int × Bool × Bool × Bool × Int × Heap × (Bool × Unit) × (Bool × Unit) × (Bool × Unit) × Unit × (List Int) × (List Span) × (List Int) × (List Span) × (List Int) × (List Span) × Unit) : Option (SRes (.cons cI (.cons cI (.cons .bool (.cons .bool (.cons .bool (.cons cI (.cons cHeap (.cons (.cons .bool .nil) (.cons (.cons .bool .nil) (.cons (.cons .bool .nil) (.cons .nil (.cons (.sl (.int .u64)) (.cons (.sl cSpan) (.cons (.sl (.int .u64)) (.cons (.sl cSpan) (.cons (.sl (.int .u64)) (.cons (.sl cSpan) .nil))))))))))))))))) (.cons cI (.cons cI (.cons .bool (.cons .bool (.cons .bool (.cons cHeap (.cons (.cons .bool .nil) (.cons (.cons .bool .nil) (.cons .nil (.cons (.sl (.int .u64)) (.cons (.sl cSpan) (.cons (.sl (.int .u64)) (.cons (.sl cSpan) .nil))))))))))))) .nil) := flotsamlaw07_HeapKeeps_oon_s1r x.1 x.2.1 x.2.2.1 x.2.2.2.1 x.2.2.2.2.1 x.2.2.2.2.2.1 x.2.2.2.2.2.2.1 x.2.2.2.2.2.2.2.1 x.2.2.2.2.2.2.2.2.1 x.2.2.2.2.2.2.2.2.2.1 x.2.2.2.2.2.2.2.2.2.2.1 x.2.2.2.2.2.2.2.2.2.2.2.1 x.2.2.2.2.2.2.2.2.2.2.2.2.1 x.2.2.2.2.2.2.2.2.2.2.2.2.2.1 x.2.2.2.2.2.2.2.2.2.2.2.2.2.2.1 x.2.2.2.2.2.2.2.2.2.2.2.2.2.2.2.1 x.2.2.2.2.2.2.2.2.2.2.2.2.2.2.2.2.1
def flotsamlaw07_HeapKeeps_oon_l1 (x : Int × Int × Bool × Bool × Bool × Int × Heap × (Bool × Unit) × (Bool × Unit) × (Bool × Unit) × Unit × (List Int) × (List Span) × (List Int) × (List Span) × (List Int) × (List Span) × Unit) : Option (LRes (.cons cI (.cons cI (.cons .bool (.cons .bool (.cons .bool (.cons cHeap (.cons (.cons .bool .nil) (.cons (.cons .bool .nil) (.cons .nil (.cons (.sl (.int .u64)) (.cons (.sl cSpan) (.cons (.sl (.int .u64)) (.cons (.sl cSpan) .nil))))))))))))) .nil) := iterL (h := (.cons cI (.cons cI (.cons .bool (.cons .bool (.cons .bool (.cons cI (.cons cHeap (.cons (.cons .bool .nil) (.cons (.cons .bool .nil) (.cons (.cons .bool .nil) (.cons .nil (.cons (.sl (.int .u64)) (.cons (.sl cSpan) (.cons (.sl (.int .u64)) (.cons (.sl cSpan) (.cons (.sl (.int .u64)) (.cons (.sl cSpan) .nil)))))))))))))))))) (o := (.cons cI (.cons cI (.cons .bool (.cons .bool (.cons .bool (.cons cHeap (.cons (.cons .bool .nil) (.cons (.cons .bool .nil) (.cons .nil (.cons (.sl (.int .u64)) (.cons (.sl cSpan) (.cons (.sl (.int .u64)) (.cons (.sl cSpan) .nil)))))))))))))) (r := .nil) flotsamlaw07_HeapKeeps_oon_s1 9223372036854775808 x
def flotsamlaw07_HeapKeeps_oon_r (a0 : Heap) (a1 : Int) (a2 : Int) : Option (Bool × Unit) :=
  (flotsamlaw07_awake ()).bind fun y1 =>
  bif !y1.1 then
    (flotsamlaw07_awake ()).bind fun y2 =>
    some (y2.1, ())
  else
  (flotsamref07_Form (a0, ())).bind fun y3 =>
  bif !y3.1 then
    (flotsamlaw07_awake ()).bind fun y4 =>
    some (y4.1, ())
  else
  bif decide ((0 + a0.1.length) * 8 ≤ 140737488355328) then
    bif decide ((0 + a0.2.1.length) * 24 ≤ 140737488355328) then
      (heap_Open_o ((a0.1, a0.2.1, a0.2.2.1, ()), a1, a2, ())).bind fun y5 =>
      (heap_Lay_o ((a0.1, a0.2.1, a0.2.2.1, ()), a1, a2, ())).bind fun y6 =>
      (heap_Free_n ((a0.1, a0.2.1, a0.2.2.1, ()), a1, ())).bind fun y7 =>
      (heap_Close_n ((a0.1, a0.2.1, a0.2.2.1, ()), a1, ())).bind fun y8 =>
      (flotsamref07_Same ((a0.1, a0.2.1, a0.2.2.1, ()), a0, ())).bind fun y9 =>
      bif !y9.1 then
        some (false, ())
      else
      (flotsamlaw07_HeapKeeps_oon_l0 (a1, a2, y5.2.1, y6.2.2.1, y7.2.1, 0, a0, (a0.2.2.1, ()), y5.1.2.2, y6.1.2.2, (), a0.1, a0.2.1, y5.1.1, y5.1.2.1, y6.1.1, y6.1.2.1, ())).bind fun s10 => match s10 with
      | .out s10 =>
        (flotsamlaw07_HeapKeeps_oon_l1 (s10.1, s10.2.1, s10.2.2.1, s10.2.2.2.1, s10.2.2.2.2.1, 0, s10.2.2.2.2.2.1, s10.2.2.2.2.2.2.1, s10.2.2.2.2.2.2.2.1, s10.2.2.2.2.2.2.2.2.1, s10.2.2.2.2.2.2.2.2.2.1, s10.2.2.2.2.2.2.2.2.2.2.1, s10.2.2.2.2.2.2.2.2.2.2.2.1, s10.2.2.2.2.2.2.2.2.2.2.2.2.1, s10.2.2.2.2.2.2.2.2.2.2.2.2.2.1, s10.2.2.2.2.2.2.2.2.2.2.2.2.2.2.1, s10.2.2.2.2.2.2.2.2.2.2.2.2.2.2.2.1, ())).bind fun s11 => match s11 with
        | .out s11 =>
          (flotsamref07_Open (s11.2.2.2.2.2.1, s11.1, s11.2.1, ())).bind fun y12 =>
          (flotsamref07_Lay (s11.2.2.2.2.2.1, s11.1, s11.2.1, ())).bind fun y13 =>
          (flotsamref07_Free (s11.2.2.2.2.2.1, s11.1, ())).bind fun y14 =>
          bif !s11.2.2.1 then
            bif !s11.2.2.2.1 then
              bif !s11.2.2.2.2.1 then
                some (true, ())
              else none
            else
            (flotsamref07_Same ((s11.2.2.2.2.2.2.2.2.2.2.2.1, s11.2.2.2.2.2.2.2.2.2.2.2.2.1, s11.2.2.2.2.2.2.2.1), y13.1, ())).bind fun y15 =>
            bif y15.1 then
              bif !s11.2.2.2.2.1 then
                some (true, ())
              else none
            else
            some (false, ())
          else
          (flotsamref07_Same ((s11.2.2.2.2.2.2.2.2.2.1, s11.2.2.2.2.2.2.2.2.2.2.1, s11.2.2.2.2.2.2.1), y12.1, ())).bind fun y16 =>
          bif y16.1 then
            bif !s11.2.2.2.1 then
              bif !s11.2.2.2.2.1 then
                some (true, ())
              else none
            else
            (flotsamref07_Same ((s11.2.2.2.2.2.2.2.2.2.2.2.1, s11.2.2.2.2.2.2.2.2.2.2.2.2.1, s11.2.2.2.2.2.2.2.1), y13.1, ())).bind fun y17 =>
            bif y17.1 then
              bif !s11.2.2.2.2.1 then
                some (true, ())
              else none
            else
            some (false, ())
          else
          some (false, ())
        | .ret s11 =>
          none
      | .ret s10 =>
        none
    else none
  else none
def flotsamlaw07_HeapKeeps_oon (x : Heap × Val) : Option (Bool × Unit) := flotsamlaw07_HeapKeeps_oon_r x.1 x.2.1 x.2.2.1
noncomputable def flotsamlaw07_HeapKeeps_oon_sm : Sum := ⟨(.cons cHeap cVal), (.cons (.d .bool) .nil), flotsamlaw07_HeapKeeps_oon⟩
noncomputable def flotsamlaw07_HeapKeeps_oon_L0 : LoopSum := { hc := ⟨[], [1, 2, 3, 7, 8, 9, 10, 12, 13, 14, 15], [], [], [0, 320, 464, 640, 800], [192, 256, 400, 401, 560, 561], 976⟩, h := ⟨[(1, (.d cI)), (2, (.d cI)), (3, (.pvar 0 [])), (7, (.pvar 320 [])), (8, (.pvar 464 [])), (9, (.d .bool)), (10, (.pvar 640 [])), (12, (.d .bool)), (13, (.pvar 800 [])), (14, (.d .bool)), (15, (.d cI))], [(0, (.d cHeap)), (320, (.cons (.row 192) (.cons (.row 256) (.d (.cons .bool .nil))))), (464, (.cons (.row 400) (.cons (.row 401) (.d (.cons .bool .nil))))), (640, (.cons (.row 560) (.cons (.row 561) (.d (.cons .bool .nil))))), (800, (.cons .undef (.cons .undef (.cons .undef (.d .nil)))))], [(192, (.int .u64), true), (256, cSpan, true), (400, (.int .u64), true), (401, cSpan, true), (560, (.int .u64), true), (561, cSpan, true)], 976⟩, xid := 0, oc := ⟨[], [1, 2, 3, 7, 8, 9, 10, 12, 13, 14], [], [], [0, 320, 464, 640, 800], [192, 256, 400, 401, 560, 561], 976⟩, o := ⟨[(1, (.d cI)), (2, (.d cI)), (3, (.pvar 0 [])), (7, (.pvar 320 [])), (8, (.pvar 464 [])), (9, (.d .bool)), (10, (.pvar 640 [])), (12, (.d .bool)), (13, (.pvar 800 [])), (14, (.d .bool))], [(0, (.d cHeap)), (320, (.cons (.row 192) (.cons (.row 256) (.d (.cons .bool .nil))))), (464, (.cons (.row 400) (.cons (.row 401) (.d (.cons .bool .nil))))), (640, (.cons (.row 560) (.cons (.row 561) (.d (.cons .bool .nil))))), (800, (.cons .undef (.cons .undef (.cons .undef (.d .nil)))))], [(192, (.int .u64), true), (256, cSpan, true), (400, (.int .u64), true), (401, cSpan, true), (560, (.int .u64), true), (561, cSpan, true)], 976⟩, rc := ⟨[], [], [], [], [], [], 976⟩, r := ⟨[], [], [], 976⟩, F := flotsamlaw07_HeapKeeps_oon_l0 }
noncomputable def flotsamlaw07_HeapKeeps_oon_L1 : LoopSum := { hc := ⟨[], [1, 2, 3, 7, 8, 9, 10, 12, 13, 14, 16], [], [], [0, 320, 464, 640, 800], [192, 256, 400, 401, 560, 561], 992⟩, h := ⟨[(1, (.d cI)), (2, (.d cI)), (3, (.pvar 0 [])), (7, (.pvar 320 [])), (8, (.pvar 464 [])), (9, (.d .bool)), (10, (.pvar 640 [])), (12, (.d .bool)), (13, (.pvar 800 [])), (14, (.d .bool)), (16, (.d cI))], [(0, (.d cHeap)), (320, (.cons (.row 192) (.cons (.row 256) (.d (.cons .bool .nil))))), (464, (.cons (.row 400) (.cons (.row 401) (.d (.cons .bool .nil))))), (640, (.cons (.row 560) (.cons (.row 561) (.d (.cons .bool .nil))))), (800, (.cons .undef (.cons .undef (.cons .undef (.d .nil)))))], [(192, (.int .u64), true), (256, cSpan, true), (400, (.int .u64), true), (401, cSpan, true), (560, (.int .u64), true), (561, cSpan, true)], 992⟩, xid := 2, oc := ⟨[], [1, 2, 3, 8, 9, 10, 12, 13, 14], [], [], [0, 464, 640, 800], [400, 401, 560, 561], 992⟩, o := ⟨[(1, (.d cI)), (2, (.d cI)), (3, (.pvar 0 [])), (8, (.pvar 464 [])), (9, (.d .bool)), (10, (.pvar 640 [])), (12, (.d .bool)), (13, (.pvar 800 [])), (14, (.d .bool))], [(0, (.d cHeap)), (464, (.cons (.row 400) (.cons (.row 401) (.d (.cons .bool .nil))))), (640, (.cons (.row 560) (.cons (.row 561) (.d (.cons .bool .nil))))), (800, (.cons .undef (.cons .undef (.cons .undef (.d .nil)))))], [(400, (.int .u64), true), (401, cSpan, true), (560, (.int .u64), true), (561, cSpan, true)], 992⟩, rc := ⟨[], [], [], [], [], [], 992⟩, r := ⟨[], [], [], 992⟩, F := flotsamlaw07_HeapKeeps_oon_l1 }
noncomputable def flotsamlaw07_HeapKeeps_oon_S : List (Nat × Sum) := [(21, flotsamref07_Form_sm), (31, flotsamref07_Same_sm), (43, flotsamlaw07_awake_sm), (51, heap_Open_o_sm), (52, flotsamref07_Open_sm), (53, heap_Close_n_sm), (55, heap_Free_n_sm), (56, flotsamref07_Free_sm), (57, heap_Lay_o_sm), (58, flotsamref07_Lay_sm)]
noncomputable def flotsamlaw07_HeapKeeps_oon_fl : List (Nat × Func) := []
noncomputable def flotsamlaw07_HeapKeeps_oon_es : List AE := [⟨8, 13, 0, 0, flotsamlaw07_HeapKeeps_oon_L0⟩, ⟨8, 13, 0, 2, flotsamlaw07_HeapKeeps_oon_L1⟩]
theorem flotsamlaw07_HeapKeeps_oon_den0 : (fun x => denStep TEv (look1 flotsamlaw07_HeapKeeps_oon_S) (look1 flotsamlaw07_HeapKeeps_oon_fl) (annOf flotsamlaw07_HeapKeeps_oon_es) 8 13 Go.Proofs.Tryd.f13.ntmps 0 (cat (bodyOf Go.Proofs.Tryd.f13) [true, true, true, true, true, true, true, true, false, true, false, false]) flotsamlaw07_HeapKeeps_oon_L0 x) = flotsamlaw07_HeapKeeps_oon_s0 := by kernel_rfl
theorem flotsamlaw07_HeapKeeps_oon_den1 : (fun x => denStep TEv (look1 flotsamlaw07_HeapKeeps_oon_S) (look1 flotsamlaw07_HeapKeeps_oon_fl) (annOf flotsamlaw07_HeapKeeps_oon_es) 8 13 Go.Proofs.Tryd.f13.ntmps 0 (cat (bodyOf Go.Proofs.Tryd.f13) [true, true, true, true, true, true, true, true, true, false, true, false, false]) flotsamlaw07_HeapKeeps_oon_L1 x) = flotsamlaw07_HeapKeeps_oon_s1 := by kernel_rfl
theorem flotsamlaw07_HeapKeeps_oon_den : (fun x => denFun TEv (look1 flotsamlaw07_HeapKeeps_oon_S) (look1 flotsamlaw07_HeapKeeps_oon_fl) (annOf flotsamlaw07_HeapKeeps_oon_es) 8 13 Go.Proofs.Tryd.f13 flotsamlaw07_HeapKeeps_oon_sm.a flotsamlaw07_HeapKeeps_oon_sm.r x) = flotsamlaw07_HeapKeeps_oon_sm.F := by kernel_rfl
theorem flotsamlaw07_HeapKeeps_oon_ok0 : AEok Go.Proofs.Tryd.prog TEv (look1 flotsamlaw07_HeapKeeps_oon_S) (look1 flotsamlaw07_HeapKeeps_oon_fl) (annOf flotsamlaw07_HeapKeeps_oon_es) ⟨8, 13, 0, 0, flotsamlaw07_HeapKeeps_oon_L0⟩ := aeok_of 9223372036854775808 Go.Proofs.Tryd.func13 (by kernel_rfl) flotsamlaw07_HeapKeeps_oon_den0 (by kernel_rfl)
theorem flotsamlaw07_HeapKeeps_oon_ok1 : AEok Go.Proofs.Tryd.prog TEv (look1 flotsamlaw07_HeapKeeps_oon_S) (look1 flotsamlaw07_HeapKeeps_oon_fl) (annOf flotsamlaw07_HeapKeeps_oon_es) ⟨8, 13, 0, 2, flotsamlaw07_HeapKeeps_oon_L1⟩ := aeok_of 9223372036854775808 Go.Proofs.Tryd.func13 (by kernel_rfl) flotsamlaw07_HeapKeeps_oon_den1 (by kernel_rfl)
theorem flotsamlaw07_HeapKeeps_oon_sem : SemOf Go.Proofs.Tryd.prog 13 flotsamlaw07_HeapKeeps_oon_sm :=
  semMk teOk (sl := flotsamlaw07_HeapKeeps_oon_S) (all_cons flotsamref07_Form_sem (all_cons flotsamref07_Same_sem (all_cons flotsamlaw07_awake_sem (all_cons heap_Open_o_sem (all_cons flotsamref07_Open_sem (all_cons heap_Close_n_sem (all_cons heap_Free_n_sem (all_cons flotsamref07_Free_sem (all_cons heap_Lay_o_sem (all_cons flotsamref07_Lay_sem all_nil)))))))))) (fl := flotsamlaw07_HeapKeeps_oon_fl) (all_nil) (es := flotsamlaw07_HeapKeeps_oon_es) Go.Proofs.Tryd.func13 (by kernel_rfl) rfl (all_cons flotsamlaw07_HeapKeeps_oon_ok0 (all_cons flotsamlaw07_HeapKeeps_oon_ok1 (all_nil))) rfl flotsamlaw07_HeapKeeps_oon_den

/-! ### flotsam/flotsamlaw07.HeapKeeps -/
def flotsamlaw07_HeapKeeps_ono_s0r (v1 : Int) (v2 : Int) (v9 : Bool) (v12 : Bool) (v14 : Bool) (v15 : Int) (c0 : Heap) (c320 : Bool × Unit) (c464 : Bool × Unit) (c640 : Unit) (c800 : Bool × Unit) (r192 : List Int) (r256 : List Span) (r400 : List Int) (r401 : List Span) (r736 : List Int) (r737 : List Span) : Option (SRes (.cons cI (.cons cI (.cons .bool (.cons .bool (.cons .bool (.cons cI (.cons cHeap (.cons (.cons .bool .nil) (.cons (.cons .bool .nil) (.cons .nil (.cons (.cons .bool .nil) (.cons (.sl (.int .u64)) (.cons (.sl cSpan) (.cons (.sl (.int .u64)) (.cons (.sl cSpan) (.cons (.sl (.int .u64)) (.cons (.sl cSpan) .nil))))))))))))))))) (.cons cI (.cons cI (.cons .bool (.cons .bool (.cons .bool (.cons cHeap (.cons (.cons .bool .nil) (.cons (.cons .bool .nil) (.cons .nil (.cons (.cons .bool .nil) (.cons (.sl (.int .u64)) (.cons (.sl cSpan) (.cons (.sl (.int .u64)) (.cons (.sl cSpan) (.cons (.sl (.int .u64)) (.cons (.sl cSpan) .nil)))))))))))))))) .nil) :=
  bif decide (v15 < (r192.length : Int)) then
    bif decide (0 ≤ v15) then
      bif decide (v15 < (r192.length : Int)) then
        some (.next (v1, v2, v9, v12, v14, wi64 (v15 + 1), c0, c320, c464, c640, c800, r192.set v15.toNat 77, r256, r400, r401, r736, r737, ()))
      else none
    else none
  else
  some (.fin (.out (v1, v2, v9, v12, v14, c0, c320, c464, c640, c800, r192, r256, r400, r401, r736, r737, ())))
def flotsamlaw07_HeapKeeps_ono_s0 (x : Int × Int × Bool × Bool × Bool × Int × Heap × (Bool × Unit) × (Bool × Unit) × Unit × (Bool × Unit) × (List Int) × (List Span) × (List Int) × (List Span) × (List Int) × (List Span) × Unit) : Option (SRes (.cons cI (.cons cI (.cons .bool (.cons .bool (.cons .bool (.cons cI (.cons cHeap (.cons (.cons .bool .nil) (.cons (.cons .bool .nil) (.cons .nil (.cons (.cons .bool .nil) (.cons (.sl (.int .u64)) (.cons (.sl cSpan) (.cons (.sl (.int .u64)) (.cons (.sl cSpan) (.cons (.sl (.int .u64)) (.cons (.sl cSpan) .nil))))))))))))))))) (.cons cI (.cons cI (.cons .bool (.cons .bool (.cons .bool (.cons cHeap (.cons (.cons .bool .nil) (.cons (.cons .bool .nil) (.cons .nil (.cons (.cons .bool .nil) (.cons (.sl (.int .u64)) (.cons (.sl cSpan) (.cons (.sl (.int .u64)) (.cons (.sl cSpan) (.cons (.sl (.int .u64)) (.cons (.sl cSpan) .nil)))))))))))))))) .nil) := flotsamlaw07_HeapKeeps_ono_s0r x.1 x.2.1 x.2.2.1 x.2.2.2.1 x.2.2.2.2.1 x.2.2.2.2.2.1 x.2.2.2.2.2.2.1 x.2.2.2.2.2.2.2.1 x.2.2.2.2.2.2.2.2.1 x.2.2.2.2.2.2.2.2.2.1 x.2.2.2.2.2.2.2.2.2.2.1 x.2.2.2.2.2.2.2.2.2.2.2.1 x.2.2.2.2.2.2.2.2.2.2.2.2.1 x.2.2.2.2.2.2.2.2.2.2.2.2.2.1 x.2.2.2.2.2.2.2.2.2.2.2.2.2.2.1 x.2.2.2.2.2.2.2.2.2.2.2.2.2.2.2.1 x.2.2.2.2.2.2.2.2.2.2.2.2.2.2.2.2.1
def flotsamlaw07_HeapKeeps_ono_l0 (x : Int × Int × Bool × Bool × Bool × Int × Heap × (Bool × Unit) × (Bool × Unit) × Unit × (Bool × Unit) × (List Int) × (List Span) × (List Int) × (List Span) × (List Int) × (List Span) × Unit) : Option (LRes (.cons cI (.cons cI (.cons .bool (.cons .bool (.cons .bool (.cons cHeap (.cons (.cons .bool .nil) (.cons (.cons .bool .nil) (.cons .nil (.cons (.cons .bool .nil) (.cons (.sl (.int .u64)) (.cons (.sl cSpan) (.cons (.sl (.int .u64)) (.cons (.sl cSpan) (.cons (.sl (.int .u64)) (.cons (.sl cSpan) .nil)))))))))))))))) .nil) := iterL (h := (.cons cI (.cons cI (.cons .bool (.cons .bool (.cons .bool (.cons cI (.cons cHeap (.cons (.cons .bool .nil) (.cons (.cons .bool .nil) (.cons .nil (.cons (.cons .bool .nil) (.cons (.sl (.int .u64)) (.cons (.sl cSpan) (.cons (.sl (.int .u64)) (.cons (.sl cSpan) (.cons (.sl (.int .u64)) (.cons (.sl cSpan) .nil)))))))))))))))))) (o := (.cons cI (.cons cI (.cons .bool (.cons .bool (.cons .bool (.cons cHeap (.cons (.cons .bool .nil) (.cons (.cons .bool .nil) (.cons .nil (.cons (.cons .bool .nil) (.cons (.sl (.int .u64)) (.cons (.sl cSpan) (.cons (.sl (.int .u64)) (.cons (.sl cSpan) (.cons (.sl (.int .u64)) (.cons (.sl cSpan) .nil))))))))))))))))) (r := .nil) flotsamlaw07_HeapKeeps_ono_s0 9223372036854775808 x
def flotsamlaw07_HeapKeeps_ono_s1r (v1 : Int) (v2 : Int) (v9 : Bool) (v12 : Bool) (v14 : Bool) (v16 : Int) (c0 : Heap) (c320 : Bool × Unit) (c464 : Bool × Unit) (c640 : Unit) (c800 : Bool × Unit) (r192 : List Int) (r256 : List Span) (r400 : List Int) (r401 : List Span) (r736 : List Int) (r737 : List Span) : Option (SRes (.cons cI (.cons cI (.cons .bool (.cons .bool (.cons .bool (.cons cI (.cons cHeap (.cons (.cons .bool .nil) (.cons (.cons .bool .nil) (.cons .nil (.cons (.cons .bool .nil) (.cons (.sl (.int .u64)) (.cons (.sl cSpan) (.cons (.sl (.int .u64)) (.cons (.sl cSpan) (.cons (.sl (.int .u64)) (.cons (.sl cSpan) .nil))))))))))))))))) (.cons cI (.cons cI (.cons .bool (.cons .bool (.cons .bool (.cons cHeap (.cons (.cons .bool .nil) (.cons .nil (.cons (.cons .bool .nil) (.cons (.sl (.int .u64)) (.cons (.sl cSpan) (.cons (.sl (.int .u64)) (.cons (.sl cSpan) .nil))))))))))))) .nil) :=
  bif decide (v16 < (r256.length : Int)) then
    bif decide (0 ≤ v16) then
      bif decide (v16 < (r256.length : Int)) then
        some (.next (v1, v2, v9, v12, v14, wi64 (v16 + 1), c0, c320, c464, c640, c800, r192, r256.set v16.toNat (9, 0, 0, ()), r400, r401, r736, r737, ()))
      else none
    else none
  else
  some (.fin (.out (v1, v2, v9, v12, v14, c0, c464, c640, c800, r400, r401, r736, r737, ())))
def flotsamlaw07_HeapKeeps_ono_s1 (x : Int × Int × Bool × Bool × Bool × Int × Heap × (Bool × Unit) × (Bool × Unit) × Unit × (Bool × Unit) × (List Int) × (List Span) × (List Int) × (List Span) × (List Int) × (List Span) × Unit) : Option (SRes (.cons cI (.cons cI (.cons .bool (.cons .bool (.cons .bool (.cons cI (.cons cHeap (.cons (.cons .bool .nil) (.cons (.cons .bool .nil) (.cons .nil (.cons (.cons .bool .nil) (.cons (.sl (.int .u64)) (.cons (.sl cSpan) (.cons (.sl (.int .u64)) (.cons (.sl cSpan) (.cons (.sl (.int .u64)) (.cons (.sl cSpan) .nil))))))))))))))))) (.cons cI (.cons cI (.cons .bool (.cons .bool (.cons .bool (.cons cHeap (.cons (.cons .bool .nil) (.cons .nil (.cons (.cons .bool .nil) (.cons (.sl (.int .u64)) (.cons (.sl cSpan) (.cons (.sl (.int .u64)) (.cons (.sl cSpan) .nil))))))))))))) .nil) := flotsamlaw07_HeapKeeps_ono_s1r x.1 x.2.1 x.2.2.1 x.2.2.2.1 x.2.2.2.2.1 x.2.2.2.2.2.1 x.2.2.2.2.2.2.1 x.2.2.2.2.2.2.2.1 x.2.2.2.2.2.2.2.2.1 x.2.2.2.2.2.2.2.2.2.1 x.2.2.2.2.2.2.2.2.2.2.1 x.2.2.2.2.2.2.2.2.2.2.2.1 x.2.2.2.2.2.2.2.2.2.2.2.2.1 x.2.2.2.2.2.2.2.2.2.2.2.2.2.1 x.2.2.2.2.2.2.2.2.2.2.2.2.2.2.1 x.2.2.2.2.2.2.2.2.2.2.2.2.2.2.2.1 x.2.2.2.2.2.2.2.2.2.2.2.2.2.2.2.2.1
def flotsamlaw07_HeapKeeps_ono_l1 (x : Int × Int × Bool × Bool × Bool × Int × Heap × (Bool × Unit) × (Bool × Unit) × Unit × (Bool × Unit) × (List Int) × (List Span) × (List Int) × (List Span) × (List Int) × (List Span) × Unit) : Option (LRes (.cons cI (.cons cI (.cons .bool (.cons .bool (.cons .bool (.cons cHeap (.cons (.cons .bool .nil) (.cons .nil (.cons (.cons .bool .nil) (.cons (.sl (.int .u64)) (.cons (.sl cSpan) (.cons (.sl (.int .u64)) (.cons (.sl cSpan) .nil))))))))))))) .nil) := iterL (h := (.cons cI (.cons cI (.cons .bool (.cons .bool (.cons .bool (.cons cI (.cons cHeap (.cons (.cons .bool .nil) (.cons (.cons .bool .nil) (.cons .nil (.cons (.cons .bool .nil) (.cons (.sl (.int .u64)) (.cons (.sl cSpan) (.cons (.sl (.int .u64)) (.cons (.sl cSpan) (.cons (.sl (.int .u64)) (.cons (.sl cSpan) .nil)))))))))))))))))) (o := (.cons cI (.cons cI (.cons .bool (.cons .bool (.cons .bool (.cons cHeap (.cons (.cons .bool .nil) (.cons .nil (.cons (.cons .bool .nil) (.cons (.sl (.int .u64)) (.cons (.sl cSpan) (.cons (.sl (.int .u64)) (.cons (.sl cSpan) .nil)))))))))))))) (r := .nil) flotsamlaw07_HeapKeeps_ono_s1 9223372036854775808 x
def flotsamlaw07_HeapKeeps_ono_r (a0 : Heap) (a1 : Int) (a2 : Int) : Option (Bool × Unit) :=
  (flotsamlaw07_awake ()).bind fun y1 =>
  bif !y1.1 then
    (flotsamlaw07_awake ()).bind fun y2 =>
    some (y2.1, ())
  else
  (flotsamref07_Form (a0, ())).bind fun y3 =>
  bif !y3.1 then
    (flotsamlaw07_awake ()).bind fun y4 =>
    some (y4.1, ())
  else
  bif decide ((0 + a0.1.length) * 8 ≤ 140737488355328) then
    bif decide ((0 + a0.2.1.length) * 24 ≤ 140737488355328) then
      (heap_Open_o ((a0.1, a0.2.1, a0.2.2.1, ()), a1, a2, ())).bind fun y5 =>
      (heap_Lay_n ((a0.1, a0.2.1, a0.2.2.1, ()), a1, a2, ())).bind fun y6 =>
      (heap_Free_o ((a0.1, a0.2.1, a0.2.2.1, ()), a1, ())).bind fun y7 =>
      (heap_Close_n ((a0.1, a0.2.1, a0.2.2.1, ()), a1, ())).bind fun y8 =>
      (flotsamref07_Same ((a0.1, a0.2.1, a0.2.2.1, ()), a0, ())).bind fun y9 =>
      bif !y9.1 then
        some (false, ())
      else
      (flotsamlaw07_HeapKeeps_ono_l0 (a1, a2, y5.2.1, y6.2.2.1, y7.2.1, 0, a0, (a0.2.2.1, ()), y5.1.2.2, (), y7.1.2.2, a0.1, a0.2.1, y5.1.1, y5.1.2.1, y7.1.1, y7.1.2.1, ())).bind fun s10 => match s10 with
      | .out s10 =>
        (flotsamlaw07_HeapKeeps_ono_l1 (s10.1, s10.2.1, s10.2.2.1, s10.2.2.2.1, s10.2.2.2.2.1, 0, s10.2.2.2.2.2.1, s10.2.2.2.2.2.2.1, s10.2.2.2.2.2.2.2.1, s10.2.2.2.2.2.2.2.2.1, s10.2.2.2.2.2.2.2.2.2.1, s10.2.2.2.2.2.2.2.2.2.2.1, s10.2.2.2.2.2.2.2.2.2.2.2.1, s10.2.2.2.2.2.2.2.2.2.2.2.2.1, s10.2.2.2.2.2.2.2.2.2.2.2.2.2.1, s10.2.2.2.2.2.2.2.2.2.2.2.2.2.2.1, s10.2.2.2.2.2.2.2.2.2.2.2.2.2.2.2.1, ())).bind fun s11 => match s11 with
        | .out s11 =>
          (flotsamref07_Open (s11.2.2.2.2.2.1, s11.1, s11.2.1, ())).bind fun y12 =>
          (flotsamref07_Lay (s11.2.2.2.2.2.1, s11.1, s11.2.1, ())).bind fun y13 =>
          (flotsamref07_Free (s11.2.2.2.2.2.1, s11.1, ())).bind fun y14 =>
          bif !s11.2.2.1 then
            bif !s11.2.2.2.1 then
              bif !s11.2.2.2.2.1 then
                some (true, ())
              else
              (flotsamref07_Same ((s11.2.2.2.2.2.2.2.2.2.2.2.1, s11.2.2.2.2.2.2.2.2.2.2.2.2.1, s11.2.2.2.2.2.2.2.2.1), y14.1, ())).bind fun y15 =>
              some (y15.1, ())
            else none
          else
          (flotsamref07_Same ((s11.2.2.2.2.2.2.2.2.2.1, s11.2.2.2.2.2.2.2.2.2.2.1, s11.2.2.2.2.2.2.1), y12.1, ())).bind fun y16 =>
          bif y16.1 then
            bif !s11.2.2.2.1 then
              bif !s11.2.2.2.2.1 then
                some (true, ())
              else
              (flotsamref07_Same ((s11.2.2.2.2.2.2.2.2.2.2.2.1, s11.2.2.2.2.2.2.2.2.2.2.2.2.1, s11.2.2.2.2.2.2.2.2.1), y14.1, ())).bind fun y17 =>
              some (y17.1, ())
            else none
          else
          some (false, ())
        | .ret s11 =>
          none
      | .ret s10 =>
        none
    else none
  else none
def flotsamlaw07_HeapKeeps_ono (x : Heap × Val) : Option (Bool × Unit) := flotsamlaw07_HeapKeeps_ono_r x.1 x.2.1 x.2.2.1
noncomputable def flotsamlaw07_HeapKeeps_ono_sm : Sum := ⟨(.cons cHeap cVal), (.cons (.d .bool) .nil), flotsamlaw07_HeapKeeps_ono⟩
noncomputable def flotsamlaw07_HeapKeeps_ono_L0 : LoopSum := { hc := ⟨[], [1, 2, 3, 7, 8, 9, 10, 12, 13, 14, 15], [], [], [0, 320, 464, 640, 800], [192, 256, 400, 401, 736, 737], 976⟩, h := ⟨[(1, (.d cI)), (2, (.d cI)), (3, (.pvar 0 [])), (7, (.pvar 320 [])), (8, (.pvar 464 [])), (9, (.d .bool)), (10, (.pvar 640 [])), (12, (.d .bool)), (13, (.pvar 800 [])), (14, (.d .bool)), (15, (.d cI))], [(0, (.d cHeap)), (320, (.cons (.row 192) (.cons (.row 256) (.d (.cons .bool .nil))))), (464, (.cons (.row 400) (.cons (.row 401) (.d (.cons .bool .nil))))), (640, (.cons .undef (.cons .undef (.cons .undef (.d .nil))))), (800, (.cons (.row 736) (.cons (.row 737) (.d (.cons .bool .nil)))))], [(192, (.int .u64), true), (256, cSpan, true), (400, (.int .u64), true), (401, cSpan, true), (736, (.int .u64), true), (737, cSpan, true)], 976⟩, xid := 0, oc := ⟨[], [1, 2, 3, 7, 8, 9, 10, 12, 13, 14], [], [], [0, 320, 464, 640, 800], [192, 256, 400, 401, 736, 737], 976⟩, o := ⟨[(1, (.d cI)), (2, (.d cI)), (3, (.pvar 0 [])), (7, (.pvar 320 [])), (8, (.pvar 464 [])), (9, (.d .bool)), (10, (.pvar 640 [])), (12, (.d .bool)), (13, (.pvar 800 [])), (14, (.d .bool))], [(0, (.d cHeap)), (320, (.cons (.row 192) (.cons (.row 256) (.d (.cons .bool .nil))))), (464, (.cons (.row 400) (.cons (.row 401) (.d (.cons .bool .nil))))), (640, (.cons .undef (.cons .undef (.cons .undef (.d .nil))))), (800, (.cons (.row 736) (.cons (.row 737) (.d (.cons .bool .nil)))))], [(192, (.int .u64), true), (256, cSpan, true), (400, (.int .u64), true), (401, cSpan, true), (736, (.int .u64), true), (737, cSpan, true)], 976⟩, rc := ⟨[], [], [], [], [], [], 976⟩, r := ⟨[], [], [], 976⟩, F := flotsamlaw07_HeapKeeps_ono_l0 }
noncomputable def flotsamlaw07_HeapKeeps_ono_L1 : LoopSum := { hc := ⟨[], [1, 2, 3, 7, 8, 9, 10, 12, 13, 14, 16], [], [], [0, 320, 464, 640, 800], [192, 256, 400, 401, 736, 737], 992⟩, h := ⟨[(1, (.d cI)), (2, (.d cI)), (3, (.pvar 0 [])), (7, (.pvar 320 [])), (8, (.pvar 464 [])), (9, (.d .bool)), (10, (.pvar 640 [])), (12, (.d .bool)), (13, (.pvar 800 [])), (14, (.d .bool)), (16, (.d cI))], [(0, (.d cHeap)), (320, (.cons (.row 192) (.cons (.row 256) (.d (.cons .bool .nil))))), (464, (.cons (.row 400) (.cons (.row 401) (.d (.cons .bool .nil))))), (640, (.cons .undef (.cons .undef (.cons .undef (.d .nil))))), (800, (.cons (.row 736) (.cons (.row 737) (.d (.cons .bool .nil)))))], [(192, (.int .u64), true), (256, cSpan, true), (400, (.int .u64), true), (401, cSpan, true), (736, (.int .u64), true), (737, cSpan, true)], 992⟩, xid := 2, oc := ⟨[], [1, 2, 3, 8, 9, 10, 12, 13, 14], [], [], [0, 464, 640, 800], [400, 401, 736, 737], 992⟩, o := ⟨[(1, (.d cI)), (2, (.d cI)), (3, (.pvar 0 [])), (8, (.pvar 464 [])), (9, (.d .bool)), (10, (.pvar 640 [])), (12, (.d .bool)), (13, (.pvar 800 [])), (14, (.d .bool))], [(0, (.d cHeap)), (464, (.cons (.row 400) (.cons (.row 401) (.d (.cons .bool .nil))))), (640, (.cons .undef (.cons .undef (.cons .undef (.d .nil))))), (800, (.cons (.row 736) (.cons (.row 737) (.d (.cons .bool .nil)))))], [(400, (.int .u64), true), (401, cSpan, true), (736, (.int .u64), true), (737, cSpan, true)], 992⟩, rc := ⟨[], [], [], [], [], [], 992⟩, r := ⟨[], [], [], 992⟩, F := flotsamlaw07_HeapKeeps_ono_l1 }
noncomputable def flotsamlaw07_HeapKeeps_ono_S : List (Nat × Sum) := [(21, flotsamref07_Form_sm), (31, flotsamref07_Same_sm), (43, flotsamlaw07_awake_sm), (51, heap_Open_o_sm), (52, flotsamref07_Open_sm), (53, heap_Close_n_sm), (55, heap_Free_o_sm), (56, flotsamref07_Free_sm), (57, heap_Lay_n_sm), (58, flotsamref07_Lay_sm)]
noncomputable def flotsamlaw07_HeapKeeps_ono_fl : List (Nat × Func) := []
noncomputable def flotsamlaw07_HeapKeeps_ono_es : List AE := [⟨8, 13, 0, 0, flotsamlaw07_HeapKeeps_ono_L0⟩, ⟨8, 13, 0, 2, flotsamlaw07_HeapKeeps_ono_L1⟩]
theorem flotsamlaw07_HeapKeeps_ono_den0 : (fun x => denStep TEv (look1 flotsamlaw07_HeapKeeps_ono_S) (look1 flotsamlaw07_HeapKeeps_ono_fl) (annOf flotsamlaw07_HeapKeeps_ono_es) 8 13 Go.Proofs.Tryd.f13.ntmps 0 (cat (bodyOf Go.Proofs.Tryd.f13) [true, true, true, true, true, true, true, true, false, true, false, false]) flotsamlaw07_HeapKeeps_ono_L0 x) = flotsamlaw07_HeapKeeps_ono_s0 := by kernel_rfl
theorem flotsamlaw07_HeapKeeps_ono_den1 : (fun x => denStep TEv (look1 flotsamlaw07_HeapKeeps_ono_S) (look1 flotsamlaw07_HeapKeeps_ono_fl) (annOf flotsamlaw07_HeapKeeps_ono_es) 8 13 Go.Proofs.Tryd.f13.ntmps 0 (cat (bodyOf Go.Proofs.Tryd.f13) [true, true, true, true, true, true, true, true, true, false, true, false, false]) flotsamlaw07_HeapKeeps_ono_L1 x) = flotsamlaw07_HeapKeeps_ono_s1 := by kernel_rfl
theorem flotsamlaw07_HeapKeeps_ono_den : (fun x => denFun TEv (look1 flotsamlaw07_HeapKeeps_ono_S) (look1 flotsamlaw07_HeapKeeps_ono_fl) (annOf flotsamlaw07_HeapKeeps_ono_es) 8 13 Go.Proofs.Tryd.f13 flotsamlaw07_HeapKeeps_ono_sm.a flotsamlaw07_HeapKeeps_ono_sm.r x) = flotsamlaw07_HeapKeeps_ono_sm.F := by kernel_rfl
theorem flotsamlaw07_HeapKeeps_ono_ok0 : AEok Go.Proofs.Tryd.prog TEv (look1 flotsamlaw07_HeapKeeps_ono_S) (look1 flotsamlaw07_HeapKeeps_ono_fl) (annOf flotsamlaw07_HeapKeeps_ono_es) ⟨8, 13, 0, 0, flotsamlaw07_HeapKeeps_ono_L0⟩ := aeok_of 9223372036854775808 Go.Proofs.Tryd.func13 (by kernel_rfl) flotsamlaw07_HeapKeeps_ono_den0 (by kernel_rfl)
theorem flotsamlaw07_HeapKeeps_ono_ok1 : AEok Go.Proofs.Tryd.prog TEv (look1 flotsamlaw07_HeapKeeps_ono_S) (look1 flotsamlaw07_HeapKeeps_ono_fl) (annOf flotsamlaw07_HeapKeeps_ono_es) ⟨8, 13, 0, 2, flotsamlaw07_HeapKeeps_ono_L1⟩ := aeok_of 9223372036854775808 Go.Proofs.Tryd.func13 (by kernel_rfl) flotsamlaw07_HeapKeeps_ono_den1 (by kernel_rfl)
theorem flotsamlaw07_HeapKeeps_ono_sem : SemOf Go.Proofs.Tryd.prog 13 flotsamlaw07_HeapKeeps_ono_sm :=
  semMk teOk (sl := flotsamlaw07_HeapKeeps_ono_S) (all_cons flotsamref07_Form_sem (all_cons flotsamref07_Same_sem (all_cons flotsamlaw07_awake_sem (all_cons heap_Open_o_sem (all_cons flotsamref07_Open_sem (all_cons heap_Close_n_sem (all_cons heap_Free_o_sem (all_cons flotsamref07_Free_sem (all_cons heap_Lay_n_sem (all_cons flotsamref07_Lay_sem all_nil)))))))))) (fl := flotsamlaw07_HeapKeeps_ono_fl) (all_nil) (es := flotsamlaw07_HeapKeeps_ono_es) Go.Proofs.Tryd.func13 (by kernel_rfl) rfl (all_cons flotsamlaw07_HeapKeeps_ono_ok0 (all_cons flotsamlaw07_HeapKeeps_ono_ok1 (all_nil))) rfl flotsamlaw07_HeapKeeps_ono_den

/-! ### flotsam/flotsamlaw07.HeapKeeps -/
def flotsamlaw07_HeapKeeps_onn_s0r (v1 : Int) (v2 : Int) (v9 : Bool) (v12 : Bool) (v14 : Bool) (v15 : Int) (c0 : Heap) (c320 : Bool × Unit) (c464 : Bool × Unit) (c640 : Unit) (c800 : Unit) (r192 : List Int) (r256 : List Span) (r400 : List Int) (r401 : List Span) : Option (SRes (.cons cI (.cons cI (.cons .bool (.cons .bool (.cons .bool (.cons cI (.cons cHeap (.cons (.cons .bool .nil) (.cons (.cons .bool .nil) (.cons .nil (.cons .nil (.cons (.sl (.int .u64)) (.cons (.sl cSpan) (.cons (.sl (.int .u64)) (.cons (.sl cSpan) .nil))))))))))))))) (.cons cI (.cons cI (.cons .bool (.cons .bool (.cons .bool (.cons cHeap (.cons (.cons .bool .nil) (.cons (.cons .bool .nil) (.cons .nil (.cons .nil (.cons (.sl (.int .u64)) (.cons (.sl cSpan) (.cons (.sl (.int .u64)) (.cons (.sl cSpan) .nil)))))))))))))) .nil) :=
  bif decide (v15 < (r192.length : Int)) then
    bif decide (0 ≤ v15) then
      bif decide (v15 < (r192.length : Int)) then
        some (.next (v1, v2, v9, v12, v14, wi64 (v15 + 1), c0, c320, c464, c640, c800, r192.set v15.toNat 77, r256, r400, r401, ()))
      else none
    else none
  else
  some (.fin (.out (v1, v2, v9, v12, v14, c0, c320, c464, c640, c800, r192, r256, r400, r401, ())))
def flotsamlaw07_HeapKeeps_onn_s0 (x : Int × Int × Bool × Bool × Bool × Int × Heap × (Bool × Unit) × (Bool × Unit) × Unit × Unit × (List Int) × (List Span) × (List Int) × (List Span) × Unit) : Option (SRes (.cons cI (.cons cI (.cons .bool (.cons .bool (.cons .bool (.cons cI (.cons cHeap (.cons (.cons .bool .nil) (.cons (.cons .bool .nil) (.cons .nil (.cons .nil (.cons (.sl (.int .u64)) (.cons (.sl cSpan) (.cons (.sl (.int .u64)) (.cons (.sl cSpan) .nil))))))))))))))) (.cons cI (.cons cI (.cons .bool (.cons .bool (.cons .bool (.cons cHeap (.cons (.cons .bool .nil) (.cons (.cons .bool .nil) (.cons .nil (.cons .nil (.cons (.sl (.int .u64)) (.cons (.sl cSpan) (.cons (.sl (.int .u64)) (.cons (.sl cSpan) .nil)))))))))))))) .nil) := flotsamlaw07_HeapKeeps_onn_s0r x.1 x.2.1 x.2.2.1 x.2.2.2.1 x.2.2.2.2.1 x.2.2.2.2.2.1 x.2.2.2.2.2.2.1 x.2.2.2.2.2.2.2.1 x.2.2.2.2.2.2.2.2.1 x.2.2.2.2.2.2.2.2.2.1 x.2.2.2.2.2.2.2.2.2.2.1 x.2.2.2.2.2.2.2.2.2.2.2.1 x.2.2.2.2.2.2.2.2.2.2.2.2.1 x.2.2.2.2.2.2.2.2.2.2.2.2.2.1 x.2.2.2.2.2.2.2.2.2.2.2.2.2.2.1
def flotsamlaw07_HeapKeeps_onn_l0 (x : Int × Int × Bool × Bool × Bool × Int × Heap × (Bool × Unit) × (Bool × Unit) × Unit × Unit × (List Int) × (List Span) × (List Int) × (List Span) × Unit) : Option (LRes (.cons cI (.cons cI (.cons .bool (.cons .bool (.cons .bool (.cons cHeap (.cons (.cons .bool .nil) (.cons (.cons .bool .nil) (.cons .nil (.cons .nil (.cons (.sl (.int .u64)) (.cons (.sl cSpan) (.cons (.sl (.int .u64)) (.cons (.sl cSpan) .nil)))))))))))))) .nil) := iterL (h := (.cons cI (.cons cI (.cons .bool (.cons .bool (.cons .bool (.cons cI (.cons cHeap (.cons (.cons .bool .nil) (.cons (.cons .bool .nil) (.cons .nil (.cons .nil (.cons (.sl (.int .u64)) (.cons (.sl cSpan) (.cons (.sl (.int .u64)) (.cons (.sl cSpan) .nil)))))))))))))))) (o := (.cons cI (.cons cI (.cons .bool (.cons .bool (.cons .bool (.cons cHeap (.cons (.cons .bool .nil) (.cons (.cons .bool .nil) (.cons .nil (.cons .nil (.cons (.sl (.int .u64)) (.cons (.sl cSpan) (.cons (.sl (.int .u64)) (.cons (.sl cSpan) .nil))))))))))))))) (r := .nil) flotsamlaw07_HeapKeeps_onn_s0 9223372036854775808 x
def flotsamlaw07_HeapKeeps_onn_s1r (v1 : Int) (v2 : Int) (v9 : Bool) (v12 : Bool) (v14 : Bool) (v16 : Int) (c0 : Heap) (c320 : Bool × Unit) (c464 : Bool × Unit) (c640 : Unit) (c800 : Unit) (r192 : List Int) (r256 : List Span) (r400 : List Int) (r401 : List Span) : Option (SRes (.cons cI (.cons cI (.cons .bool (.cons .bool (.cons .bool (.cons cI (.cons cHeap (.cons (.cons .bool .nil) (.cons (.cons .bool .nil) (.cons .nil (.cons .nil (.cons (.sl (.int .u64)) (.cons (.sl cSpan) (.cons (.sl (.int .u64)) (.cons (.sl cSpan) .nil))))))))))))))) (.cons cI (.cons cI (.cons .bool (.cons .bool (.cons .bool (.cons cHeap (.cons (.cons .bool .nil) (.cons .nil (.cons .nil (.cons (.sl (.int .u64)) (.cons (.sl cSpan) .nil))))))))))) .nil) :=
  bif decide (v16 < (r256.length : Int)) then
    bif decide (0 ≤ v16) then
      bif decide (v16 < (r256.length : Int)) then
        some (.next (v1, v2, v9, v12, v14, wi64 (v16 + 1), c0, c320, c464, c640, c800, r192, r256.set v16.toNat (9, 0, 0, ()), r400, r401, ()))
      else none
    else none
  else
  some (.fin (.out (v1, v2, v9, v12, v14, c0, c464, c640, c800, r400, r401, ())))
def flotsamlaw07_HeapKeeps_onn_s1 (x : Int × Int × Bool × Bool × Bool × Int × Heap × (Bool × Unit) × (Bool × Unit) × Unit × Unit × (List Int) × (List Span) × (List Int) × (List Span) × Unit) : Option (SRes (.cons cI (.cons cI (.cons .bool (.cons .bool (.cons .bool (.cons cI (.cons cHeap (.cons (.cons .bool .nil) (.cons (.cons .bool .nil) (.cons .nil (.cons .nil (.cons (.sl (.int .u64)) (.cons (.sl cSpan) (.cons (.sl (.int .u64)) (.cons (.sl cSpan) .nil))))))))))))))) (.cons cI (.cons cI (.cons .bool (.cons .bool (.cons .bool (.cons cHeap (.cons (.cons .bool .nil) (.cons .nil (.cons .nil (.cons (.sl (.int .u64)) (.cons (.sl cSpan) .nil))))))))))) .nil) := flotsamlaw07_HeapKeeps_onn_s1r x.1 x.2.1 x.2.2.1 x.2.2.2.1 x.2.2.2.2.1 x.2.2.2.2.2.1 x.2.2.2.2.2.2.1 x.2.2.2.2.2.2.2.1 x.2.2.2.2.2.2.2.2.1 x.2.2.2.2.2.2.2.2.2.1 x.2.2.2.2.2.2.2.2.2.2.1 x.2.2.2.2.2.2.2.2.2.2.2.1 x.2.2.2.2.2.2.2.2.2.2.2.2.1 x.2.2.2.2.2.2.2.2.2.2.2.2.2.1 x.2.2.2.2.2.2.2.2.2.2.2.2.2.2.1
def flotsamlaw07_HeapKeeps_onn_l1 (x : Int × Int × Bool × Bool × Bool × Int × Heap × (Bool × Unit) × (Bool × Unit) × Unit × Unit × (List Int) × (List Span) × (List Int) × (List Span) × Unit) : Option (LRes (.cons cI (.cons cI (.cons .bool (.cons .bool (.cons .bool (.cons cHeap (.cons (.cons .bool .nil) (.cons .nil (.cons .nil (.cons (.sl (.int .u64)) (.cons (.sl cSpan) .nil))))))))))) .nil) := iterL (h := (.cons cI (.cons cI (.cons .bool (.cons .bool (.cons .bool (.cons cI (.cons cHeap (.cons (.cons .bool .nil) (.cons (.cons .bool .nil) (.cons .nil (.cons .nil (.cons (.sl (.int .u64)) (.cons (.sl cSpan) (.cons (.sl (.int .u64)) (.cons (.sl cSpan) .nil)))))))))))))))) (o := (.cons cI (.cons cI (.cons .bool (.cons .bool (.cons .bool (.cons cHeap (.cons (.cons .bool .nil) (.cons .nil (.cons .nil (.cons (.sl (.int .u64)) (.cons (.sl cSpan) .nil)))))))))))) (r := .nil) flotsamlaw07_HeapKeeps_onn_s1 9223372036854775808 x
def flotsamlaw07_HeapKeeps_onn_r (a0 : Heap) (a1 : Int) (a2 : Int) : Option (Bool × Unit) :=
  (flotsamlaw07_awake ()).bind fun y1 =>
  bif !y1.1 then
    (flotsamlaw07_awake ()).bind fun y2 =>
    some (y2.1, ())
  else
  (flotsamref07_Form (a0, ())).bind fun y3 =>
  bif !y3.1 then
    (flotsamlaw07_awake ()).bind fun y4 =>
    some (y4.1, ())
  else
  bif decide ((0 + a0.1.length) * 8 ≤ 140737488355328) then
    bif decide ((0 + a0.2.1.length) * 24 ≤ 140737488355328) then
      (heap_Open_o ((a0.1, a0.2.1, a0.2.2.1, ()), a1, a2, ())).bind fun y5 =>
      (heap_Lay_n ((a0.1, a0.2.1, a0.2.2.1, ()), a1, a2, ())).bind fun y6 =>
      (heap_Free_n ((a0.1, a0.2.1, a0.2.2.1, ()), a1, ())).bind fun y7 =>
      (heap_Close_n ((a0.1, a0.2.1, a0.2.2.1, ()), a1, ())).bind fun y8 =>
      (flotsamref07_Same ((a0.1, a0.2.1, a0.2.2.1, ()), a0, ())).bind fun y9 =>
      bif !y9.1 then
        some (false, ())
      else
      (flotsamlaw07_HeapKeeps_onn_l0 (a1, a2, y5.2.1, y6.2.2.1, y7.2.1, 0, a0, (a0.2.2.1, ()), y5.1.2.2, (), (), a0.1, a0.2.1, y5.1.1, y5.1.2.1, ())).bind fun s10 => match s10 with
      | .out s10 =>
        (flotsamlaw07_HeapKeeps_onn_l1 (s10.1, s10.2.1, s10.2.2.1, s10.2.2.2.1, s10.2.2.2.2.1, 0, s10.2.2.2.2.2.1, s10.2.2.2.2.2.2.1, s10.2.2.2.2.2.2.2.1, s10.2.2.2.2.2.2.2.2.1, s10.2.2.2.2.2.2.2.2.2.1, s10.2.2.2.2.2.2.2.2.2.2.1, s10.2.2.2.2.2.2.2.2.2.2.2.1, s10.2.2.2.2.2.2.2.2.2.2.2.2.1, s10.2.2.2.2.2.2.2.2.2.2.2.2.2.1, ())).bind fun s11 => match s11 with
        | .out s11 =>
          (flotsamref07_Open (s11.2.2.2.2.2.1, s11.1, s11.2.1, ())).bind fun y12 =>
          (flotsamref07_Lay (s11.2.2.2.2.2.1, s11.1, s11.2.1, ())).bind fun y13 =>
          (flotsamref07_Free (s11.2.2.2.2.2.1, s11.1, ())).bind fun y14 =>
          bif !s11.2.2.1 then
            bif !s11.2.2.2.1 then
              bif !s11.2.2.2.2.1 then
                some (true, ())
              else none
            else none
          else
          (flotsamref07_Same ((s11.2.2.2.2.2.2.2.2.2.1, s11.2.2.2.2.2.2.2.2.2.2.1, s11.2.2.2.2.2.2.1), y12.1, ())).bind fun y15 =>
          bif y15.1 then
            bif !s11.2.2.2.1 then
              bif !s11.2.2.2.2.1 then
                some (true, ())
              else none
            else none
          else
          some (false, ())
        | .ret s11 =>
          none
      | .ret s10 =>
        none
    else none
  else none
def flotsamlaw07_HeapKeeps_onn (x : Heap × Val) : Option (Bool × Unit) := flotsamlaw07_HeapKeeps_onn_r x.1 x.2.1 x.2.2.1
noncomputable def flotsamlaw07_HeapKeeps_onn_sm : Sum := ⟨(.cons cHeap cVal), (.cons (.d .bool) .nil), flotsamlaw07_HeapKeeps_onn⟩
noncomputable def flotsamlaw07_HeapKeeps_onn_L0 : LoopSum := { hc := ⟨[], [1, 2, 3, 7, 8, 9, 10, 12, 13, 14, 15], [], [], [0, 320, 464, 640, 800], [192, 256, 400, 401], 976⟩, h := ⟨[(1, (.d cI)), (2, (.d cI)), (3, (.pvar 0 [])), (7, (.pvar 320 [])), (8, (.pvar 464 [])), (9, (.d .bool)), (10, (.pvar 640 [])), (12, (.d .bool)), (13, (.pvar 800 [])), (14, (.d .bool)), (15, (.d cI))], [(0, (.d cHeap)), (320, (.cons (.row 192) (.cons (.row 256) (.d (.cons .bool .nil))))), (464, (.cons (.row 400) (.cons (.row 401) (.d (.cons .bool .nil))))), (640, (.cons .undef (.cons .undef (.cons .undef (.d .nil))))), (800, (.cons .undef (.cons .undef (.cons .undef (.d .nil)))))], [(192, (.int .u64), true), (256, cSpan, true), (400, (.int .u64), true), (401, cSpan, true)], 976⟩, xid := 0, oc := ⟨[], [1, 2, 3, 7, 8, 9, 10, 12, 13, 14], [], [], [0, 320, 464, 640, 800], [192, 256, 400, 401], 976⟩, o := ⟨[(1, (.d cI)), (2, (.d cI)), (3, (.pvar 0 [])), (7, (.pvar 320 [])), (8, (.pvar 464 [])), (9, (.d .bool)), (10, (.pvar 640 [])), (12, (.d .bool)), (13, (.pvar 800 [])), (14, (.d .bool))], [(0, (.d cHeap)), (320, (.cons (.row 192) (.cons (.row 256) (.d (.cons .bool .nil))))), (464, (.cons (.row 400) (.cons (.row 401) (.d (.cons .bool .nil))))), (640, (.cons .undef (.cons .undef (.cons .undef (.d .nil))))), (800, (.cons .undef (.cons .undef (.cons .undef (.d .nil)))))], [(192, (.int .u64), true), (256, cSpan, true), (400, (.int .u64), true), (401, cSpan, true)], 976⟩, rc := ⟨[], [], [], [], [], [], 976⟩, r := ⟨[], [], [], 976⟩, F := flotsamlaw07_HeapKeeps_onn_l0 }
noncomputable def flotsamlaw07_HeapKeeps_onn_L1 : LoopSum := { hc := ⟨[], [1, 2, 3, 7, 8, 9, 10, 12, 13, 14, 16], [], [], [0, 320, 464, 640, 800], [192, 256, 400, 401], 992⟩, h := ⟨[(1, (.d cI)), (2, (.d cI)), (3, (.pvar 0 [])), (7, (.pvar 320 [])), (8, (.pvar 464 [])), (9, (.d .bool)), (10, (.pvar 640 [])), (12, (.d .bool)), (13, (.pvar 800 [])), (14, (.d .bool)), (16, (.d cI))], [(0, (.d cHeap)), (320, (.cons (.row 192) (.cons (.row 256) (.d (.cons .bool .nil))))), (464, (.cons (.row 400) (.cons (.row 401) (.d (.cons .bool .nil))))), (640, (.cons .undef (.cons .undef (.cons .undef (.d .nil))))), (800, (.cons .undef (.cons .undef (.cons .undef (.d .nil)))))], [(192, (.int .u64), true), (256, cSpan, true), (400, (.int .u64), true), (401, cSpan, true)], 992⟩, xid := 2, oc := ⟨[], [1, 2, 3, 8, 9, 10, 12, 13, 14], [], [], [0, 464, 640, 800], [400, 401], 992⟩, o := ⟨[(1, (.d cI)), (2, (.d cI)), (3, (.pvar 0 [])), (8, (.pvar 464 [])), (9, (.d .bool)), (10, (.pvar 640 [])), (12, (.d .bool)), (13, (.pvar 800 [])), (14, (.d .bool))], [(0, (.d cHeap)), (464, (.cons (.row 400) (.cons (.row 401) (.d (.cons .bool .nil))))), (640, (.cons .undef (.cons .undef (.cons .undef (.d .nil))))), (800, (.cons .undef (.cons .undef (.cons .undef (.d .nil)))))], [(400, (.int .u64), true), (401, cSpan, true)], 992⟩, rc := ⟨[], [], [], [], [], [], 992⟩, r := ⟨[], [], [], 992⟩, F := flotsamlaw07_HeapKeeps_onn_l1 }
noncomputable def flotsamlaw07_HeapKeeps_onn_S : List (Nat × Sum) := [(21, flotsamref07_Form_sm), (31, flotsamref07_Same_sm), (43, flotsamlaw07_awake_sm), (51, heap_Open_o_sm), (52, flotsamref07_Open_sm), (53, heap_Close_n_sm), (55, heap_Free_n_sm), (56, flotsamref07_Free_sm), (57, heap_Lay_n_sm), (58, flotsamref07_Lay_sm)]
noncomputable def flotsamlaw07_HeapKeeps_onn_fl : List (Nat × Func) := []
noncomputable def flotsamlaw07_HeapKeeps_onn_es : List AE := [⟨8, 13, 0, 0, flotsamlaw07_HeapKeeps_onn_L0⟩, ⟨8, 13, 0, 2, flotsamlaw07_HeapKeeps_onn_L1⟩]
theorem flotsamlaw07_HeapKeeps_onn_den0 : (fun x => denStep TEv (look1 flotsamlaw07_HeapKeeps_onn_S) (look1 flotsamlaw07_HeapKeeps_onn_fl) (annOf flotsamlaw07_HeapKeeps_onn_es) 8 13 Go.Proofs.Tryd.f13.ntmps 0 (cat (bodyOf Go.Proofs.Tryd.f13) [true, true, true, true, true, true, true, true, false, true, false, false]) flotsamlaw07_HeapKeeps_onn_L0 x) = flotsamlaw07_HeapKeeps_onn_s0 := by kernel_rfl
theorem flotsamlaw07_HeapKeeps_onn_den1 : (fun x => denStep TEv (look1 flotsamlaw07_HeapKeeps_onn_S) (look1 flotsamlaw07_HeapKeeps_onn_fl) (annOf flotsamlaw07_HeapKeeps_onn_es) 8 13 Go.Proofs.Tryd.f13.ntmps 0 (cat (bodyOf Go.Proofs.Tryd.f13) [true, true, true, true, true, true, true, true, true, false, true, false, false]) flotsamlaw07_HeapKeeps_onn_L1 x) = flotsamlaw07_HeapKeeps_onn_s1 := by kernel_rfl
theorem flotsamlaw07_HeapKeeps_onn_den : (fun x => denFun TEv (look1 flotsamlaw07_HeapKeeps_onn_S) (look1 flotsamlaw07_HeapKeeps_onn_fl) (annOf flotsamlaw07_HeapKeeps_onn_es) 8 13 Go.Proofs.Tryd.f13 flotsamlaw07_HeapKeeps_onn_sm.a flotsamlaw07_HeapKeeps_onn_sm.r x) = flotsamlaw07_HeapKeeps_onn_sm.F := by kernel_rfl
theorem flotsamlaw07_HeapKeeps_onn_ok0 : AEok Go.Proofs.Tryd.prog TEv (look1 flotsamlaw07_HeapKeeps_onn_S) (look1 flotsamlaw07_HeapKeeps_onn_fl) (annOf flotsamlaw07_HeapKeeps_onn_es) ⟨8, 13, 0, 0, flotsamlaw07_HeapKeeps_onn_L0⟩ := aeok_of 9223372036854775808 Go.Proofs.Tryd.func13 (by kernel_rfl) flotsamlaw07_HeapKeeps_onn_den0 (by kernel_rfl)
theorem flotsamlaw07_HeapKeeps_onn_ok1 : AEok Go.Proofs.Tryd.prog TEv (look1 flotsamlaw07_HeapKeeps_onn_S) (look1 flotsamlaw07_HeapKeeps_onn_fl) (annOf flotsamlaw07_HeapKeeps_onn_es) ⟨8, 13, 0, 2, flotsamlaw07_HeapKeeps_onn_L1⟩ := aeok_of 9223372036854775808 Go.Proofs.Tryd.func13 (by kernel_rfl) flotsamlaw07_HeapKeeps_onn_den1 (by kernel_rfl)
theorem flotsamlaw07_HeapKeeps_onn_sem : SemOf Go.Proofs.Tryd.prog 13 flotsamlaw07_HeapKeeps_onn_sm :=
  semMk teOk (sl := flotsamlaw07_HeapKeeps_onn_S) (all_cons flotsamref07_Form_sem (all_cons flotsamref07_Same_sem (all_cons flotsamlaw07_awake_sem (all_cons heap_Open_o_sem (all_cons flotsamref07_Open_sem (all_cons heap_Close_n_sem (all_cons heap_Free_n_sem (all_cons flotsamref07_Free_sem (all_cons heap_Lay_n_sem (all_cons flotsamref07_Lay_sem all_nil)))))))))) (fl := flotsamlaw07_HeapKeeps_onn_fl) (all_nil) (es := flotsamlaw07_HeapKeeps_onn_es) Go.Proofs.Tryd.func13 (by kernel_rfl) rfl (all_cons flotsamlaw07_HeapKeeps_onn_ok0 (all_cons flotsamlaw07_HeapKeeps_onn_ok1 (all_nil))) rfl flotsamlaw07_HeapKeeps_onn_den

/-! ### flotsam/flotsamlaw07.HeapKeeps -/
def flotsamlaw07_HeapKeeps_noo_s0r (v1 : Int) (v2 : Int) (v9 : Bool) (v12 : Bool) (v14 : Bool) (v15 : Int) (c0 : Heap) (c320 : Bool × Unit) (c464 : Unit) (c640 : Bool × Unit) (c800 : Bool × Unit) (r192 : List Int) (r256 : List Span) (r560 : List Int) (r561 : List Span) (r736 : List Int) (r737 : List Span) : Option (SRes (.cons cI (.cons cI (.cons .bool (.cons .bool (.cons .bool (.cons cI (.cons cHeap (.cons (.cons .bool .nil) (.cons .nil (.cons (.cons .bool .nil) (.cons (.cons .bool .nil) (.cons (.sl (.int .u64)) (.cons (.sl cSpan) (.cons (.sl (.int .u64)) (.cons (.sl cSpan) (.cons (.sl (.int .u64)) (.cons (.sl cSpan) .nil))))))))))))))))) (.cons cI (.cons cI (.cons .bool (.cons .bool (.cons .bool (.cons cHeap (.cons (.cons .bool .nil) (.cons .nil (.cons (.cons .bool .nil) (.cons (.cons .bool .nil) (.cons (.sl (.int .u64)) (.cons (.sl cSpan) (.cons (.sl (.int .u64)) (.cons (.sl cSpan) (.cons (.sl (.int .u64)) (.cons (.sl cSpan) .nil)))))))))))))))) .nil) :=
  bif decide (v15 < (r192.length : Int)) then
    bif decide (0 ≤ v15) then
      bif decide (v15 < (r192.length : Int)) then
        some (.next (v1, v2, v9, v12, v14, wi64 (v15 + 1), c0, c320, c464, c640, c800, r192.set v15.toNat 77, r256, r560, r561, r736, r737, ()))
      else none
    else none
  else
  some (.fin (.out (v1, v2, v9, v12, v14, c0, c320, c464, c640, c800, r192, r256, r560, r561, r736, r737, ())))
def flotsamlaw07_HeapKeeps_noo_s0 (x : Int × Int × Bool × Bool × Bool × Int × Heap × (Bool × Unit) × Unit × (Bool × Unit) × (Bool × Unit) × (List Int) × (List Span) × (List Int) × (List Span) × (List Int) × (List Span) × Unit) : Option (SRes (.cons cI (.cons cI (.cons .bool (.cons .bool (.cons .bool (.cons cI (.cons cHeap (.cons (.cons .bool .nil) (.cons .nil (.cons (.cons .bool .nil) (.cons (.cons .bool .nil) (.cons (.sl (.int .u64)) (.cons (.sl cSpan) (.cons (.sl (.int .u64)) (.cons (.sl cSpan) (.cons (.sl (.int .u64)) (.cons (.sl cSpan) .nil))))))))))))))))) (.cons cI (.cons cI (.cons .bool (.cons .bool (.cons .bool (.cons cHeap (.cons (.cons .bool .nil) (.cons .nil (.cons (.cons .bool .nil) (.cons (.cons .bool .nil) (.cons (.sl (.int .u64)) (.cons (.sl cSpan) (.cons (.sl (.int .u64)) (.cons (.sl cSpan) (.cons (.sl (.int .u64)) (.cons (.sl cSpan) .nil)))))))))))))))) .nil) := flotsamlaw07_HeapKeeps_noo_s0r x.1 x.2.1 x.2.2.1 x.2.2.2.1 x.2.2.2.2.1 x.2.2.2.2.2.1 x.2.2.2.2.2.2.1 x.2.2.2.2.2.2.2.1 x.2.2.2.2.2.2.2.2.1 x.2.2.2.2.2.2.2.2.2.1 x.2.2.2.2.2.2.2.2.2.2.1 x.2.2.2.2.2.2.2.2.2.2.2.1 x.2.2.2.2.2.2.2.2.2.2.2.2.1 x.2.2.2.2.2.2.2.2.2.2.2.2.2.1 x.2.2.2.2.2.2.2.2.2.2.2.2.2.2.1 x.2.2.2.2.2.2.2.2.2.2.2.2.2.2.2.1 x.2.2.2.2.2.2.2.2.2.2.2.2.2.2.2.2.1
def flotsamlaw07_HeapKeeps_noo_l0 (x : Int × Int × Bool × Bool × Bool × Int × Heap × (Bool × Unit) × Unit × (Bool × Unit) × (Bool × Unit) × (List Int) × (List Span) × (List Int) × (List Span) × (List Int) × (List Span) × Unit) : Option (LRes (.cons cI (.cons cI (.cons .bool (.cons .bool (.cons .bool (.cons cHeap (.cons (.cons .bool .nil) (.cons .nil (.cons (.cons .bool .nil) (.cons (.cons .bool .nil) (.cons (.sl (.int .u64)) (.cons (.sl cSpan) (.cons (.sl (.int .u64)) (.cons (.sl cSpan) (.cons (.sl (.int .u64)) (.cons (.sl cSpan) .nil)))))))))))))))) .nil) := iterL (h := (.cons cI (.cons cI (.cons .bool (.cons .bool (.cons .bool (.cons cI (.cons cHeap (.cons (.cons .bool .nil) (.cons .nil (.cons (.cons .bool .nil) (.cons (.cons .bool .nil) (.cons (.sl (.int .u64)) (.cons (.sl cSpan) (.cons (.sl (.int .u64)) (.cons (.sl cSpan) (.cons (.sl (.int .u64)) (.cons (.sl cSpan) .nil)))))))))))))))))) (o := (.cons cI (.cons cI (.cons .bool (.cons .bool (.cons .bool (.cons cHeap (.cons (.cons .bool .nil) (.cons .nil (.cons (.cons .bool .nil) (.cons (.cons .bool .nil) (.cons (.sl (.int .u64)) (.cons (.sl cSpan) (.cons (.sl (.int .u64)) (.cons (.sl cSpan) (.cons (.sl (.int .u64)) (.cons (.sl cSpan) .nil))))))))))))))))) (r := .nil) flotsamlaw07_HeapKeeps_noo_s0 9223372036854775808 x
def flotsamlaw07_HeapKeeps_noo_s1r (v1 : Int) (v2 : Int) (v9 : Bool) (v12 : Bool) (v14 : Bool) (v16 : Int) (c0 : Heap) (c320 : Bool × Unit) (c464 : Unit) (c640 : Bool × Unit) (c800 : Bool × Unit) (r192 : List Int) (r256 : List Span) (r560 : List Int) (r561 : List Span) (r736 : List Int) (r737 : List Span) : Option (SRes (.cons cI (.cons cI (.cons .bool (.cons .bool (.cons .bool (.cons cI (.cons cHeap (.cons (.cons .bool .nil) (.cons .nil (.cons (.cons .bool .nil) (.cons (.cons .bool .nil) (.cons (.sl (.int .u64)) (.cons (.sl cSpan) (.cons (.sl (.int .u64)) (.cons (.sl cSpan) (.cons (.sl (.int .u64)) (.cons (.sl cSpan) .nil))))))))))))))))) (.cons cI (.cons cI (.cons .bool (.cons .bool (.cons .bool (.cons cHeap (.cons .nil (.cons (.cons .bool .nil) (.cons (.cons .bool .nil) (.cons (.sl (.int .u64)) (.cons (.sl cSpan) (.cons (.sl (.int .u64)) (.cons (.sl cSpan) .nil))))))))))))) .nil) :=
  bif decide (v16 < (r256.length : Int)) then
    bif decide (0 ≤ v16) then
      bif decide (v16 < (r256.length : Int)) then
        some (.next (v1, v2, v9, v12, v14, wi64 (v16 + 1), c0, c320, c464, c640, c800, r192, r256.set v16.toNat (9, 0, 0, ()), r560, r561, r736, r737, ()))
      else none
    else none
  else
  some (.fin (.out (v1, v2, v9, v12, v14, c0, c464, c640, c800, r560, r561, r736, r737, ())))
def flotsamlaw07_HeapKeeps_noo_s1 (x : Int × Int × Bool × Bool × Bool × Int × Heap × (Bool × Unit) × Unit × (Bool × Unit) × (Bool × Unit) × (List Int) × (List Span) × (List Int) × (List Span) × (List Int) × (List Span) × Unit) : Option (SRes (.cons cI (.cons cI (.cons .bool (.cons .bool (.cons .bool (.cons cI (.cons cHeap (.cons (.cons .bool .nil) (.cons .nil (.cons (.cons .bool .nil) (.cons (.cons .bool .nil) (.cons (.sl (.int .u64)) (.cons (.sl cSpan) (.cons (.sl (.int .u64)) (.cons (.sl cSpan) (.cons (.sl (.int .u64)) (.cons (.sl cSpan) .nil))))))))))))))))) (.cons cI (.cons cI (.cons .bool (.cons .bool (.cons .bool (.cons cHeap (.cons .nil (.cons (.cons .bool .nil) (.cons (.cons .bool .nil) (.cons (.sl (.int .u64)) (.cons (.sl cSpan) (.cons (.sl (.int .u64)) (.cons (.sl cSpan) .nil))))))))))))) .nil) := flotsamlaw07_HeapKeeps_noo_s1r x.1 x.2.1 x.2.2.1 x.2.2.2.1 x.2.2.2.2.1 x.2.2.2.2.2.1 x.2.2.2.2.2.2.1 x.2.2.2.2.2.2.2.1 x.2.2.2.2.2.2.2.2.1 x.2.2.2.2.2.2.2.2.2.1 x.2.2.2.2.2.2.2.2.2.2.1 x.2.2.2.2.2.2.2.2.2.2.2.1 x.2.2.2.2.2.2.2.2.2.2.2.2.1 x.2.2.2.2.2.2.2.2.2.2.2.2.2.1 x.2.2.2.2.2.2.2.2.2.2.2.2.2.2.1 x.2.2.2.2.2.2.2.2.2.2.2.2.2.2.2.1 x.2.2.2.2.2.2.2.2.2.2.2.2.2.2.2.2.1
def flotsamlaw07_HeapKeeps_noo_l1 (x : Int × Int × Bool × Bool × Bool × Int × Heap × (Bool × Unit) × Unit × (Bool × Unit) × (Bool × Unit) × (List Int) × (List Span) × (List Int) × (List Span) × (List Int) × (List Span) × Unit) : Option (LRes (.cons cI (.cons cI (.cons .bool (.cons .bool (.cons .bool (.cons cHeap (.cons .nil (.cons (.cons .bool .nil) (.cons (.cons .bool .nil) (.cons (.sl (.int .u64)) (.cons (.sl cSpan) (.cons (.sl (.int .u64)) (.cons (.sl cSpan) .nil))))))))))))) .nil) := iterL (h := (.cons cI (.cons cI (.cons .bool (.cons .bool (.cons .bool (.cons cI (.cons cHeap (.cons (.cons .bool .nil) (.cons .nil (.cons (.cons .bool .nil) (.cons (.cons .bool .nil) (.cons (.sl (.int .u64)) (.cons (.sl cSpan) (.cons (.sl (.int .u64)) (.cons (.sl cSpan) (.cons (.sl (.int .u64)) (.cons (.sl cSpan) .nil)))))))))))))))))) (o := (.cons cI (.cons cI (.cons .bool (.cons .bool (.cons .bool (.cons cHeap (.cons .nil (.cons (.cons .bool .nil) (.cons (.cons .bool .nil) (.cons (.sl (.int .u64)) (.cons (.sl cSpan) (.cons (.sl (.int .u64)) (.cons (.sl cSpan) .nil)))))))))))))) (r := .nil) flotsamlaw07_HeapKeeps_noo_s1 9223372036854775808 x
def flotsamlaw07_HeapKeeps_noo_r (a0 : Heap) (a1 : Int) (a2 : Int) : Option (Bool × Unit) :=
  (flotsamlaw07_awake ()).bind fun y1 =>
  bif !y1.1 then
    (flotsamlaw07_awake ()).bind fun y2 =>
    some (y2.1, ())
  else
  (flotsamref07_Form (a0, ())).bind fun y3 =>
  bif !y3.1 then
    (flotsamlaw07_awake ()).bind fun y4 =>
    some (y4.1, ())
  else
  bif decide ((0 + a0.1.length) * 8 ≤ 140737488355328) then
    bif decide ((0 + a0.2.1.length) * 24 ≤ 140737488355328) then
      (heap_Open_n ((a0.1, a0.2.1, a0.2.2.1, ()), a1, a2, ())).bind fun y5 =>
      (heap_Lay_o ((a0.1, a0.2.1, a0.2.2.1, ()), a1, a2, ())).bind fun y6 =>
      (heap_Free_o ((a0.1, a0.2.1, a0.2.2.1, ()), a1, ())).bind fun y7 =>
      (heap_Close_n ((a0.1, a0.2.1, a0.2.2.1, ()), a1, ())).bind fun y8 =>
      (flotsamref07_Same ((a0.1, a0.2.1, a0.2.2.1, ()), a0, ())).bind fun y9 =>
      bif !y9.1 then
        some (false, ())
      else
      (flotsamlaw07_HeapKeeps_noo_l0 (a1, a2, y5.2.1, y6.2.2.1, y7.2.1, 0, a0, (a0.2.2.1, ()), (), y6.1.2.2, y7.1.2.2, a0.1, a0.2.1, y6.1.1, y6.1.2.1, y7.1.1, y7.1.2.1, ())).bind fun s10 => match s10 with
      | .out s10 =>
        (flotsamlaw07_HeapKeeps_noo_l1 (s10.1, s10.2.1, s10.2.2.1, s10.2.2.2.1, s10.2.2.2.2.1, 0, s10.2.2.2.2.2.1, s10.2.2.2.2.2.2.1, s10.2.2.2.2.2.2.2.1, s10.2.2.2.2.2.2.2.2.1, s10.2.2.2.2.2.2.2.2.2.1, s10.2.2.2.2.2.2.2.2.2.2.1, s10.2.2.2.2.2.2.2.2.2.2.2.1, s10.2.2.2.2.2.2.2.2.2.2.2.2.1, s10.2.2.2.2.2.2.2.2.2.2.2.2.2.1, s10.2.2.2.2.2.2.2.2.2.2.2.2.2.2.1, s10.2.2.2.2.2.2.2.2.2.2.2.2.2.2.2.1, ())).bind fun s11 => match s11 with
        | .out s11 =>
          (flotsamref07_Open (s11.2.2.2.2.2.1, s11.1, s11.2.1, ())).bind fun y12 =>
          (flotsamref07_Lay (s11.2.2.2.2.2.1, s11.1, s11.2.1, ())).bind fun y13 =>
          (flotsamref07_Free (s11.2.2.2.2.2.1, s11.1, ())).bind fun y14 =>
          bif !s11.2.2.1 then
            bif !s11.2.2.2.1 then
              bif !s11.2.2.2.2.1 then
                some (true, ())
              else
              (flotsamref07_Same ((s11.2.2.2.2.2.2.2.2.2.2.2.1, s11.2.2.2.2.2.2.2.2.2.2.2.2.1, s11.2.2.2.2.2.2.2.2.1), y14.1, ())).bind fun y15 =>
              some (y15.1, ())
            else
            (flotsamref07_Same ((s11.2.2.2.2.2.2.2.2.2.1, s11.2.2.2.2.2.2.2.2.2.2.1, s11.2.2.2.2.2.2.2.1), y13.1, ())).bind fun y16 =>
            bif y16.1 then
              bif !s11.2.2.2.2.1 then
                some (true, ())
              else
              (flotsamref07_Same ((s11.2.2.2.2.2.2.2.2.2.2.2.1, s11.2.2.2.2.2.2.2.2.2.2.2.2.1, s11.2.2.2.2.2.2.2.2.1), y14.1, ())).bind fun y17 =>
              some (y17.1, ())
            else
            some (false, ())
          else none
        | .ret s11 =>
          none
      | .ret s10 =>
        none
    else none
  else none
def flotsamlaw07_HeapKeeps_noo (x : Heap × Val) : Option (Bool × Unit) := flotsamlaw07_HeapKeeps_noo_r x.1 x.2.1 x.2.2.1
noncomputable def flotsamlaw07_HeapKeeps_noo_sm : Sum := ⟨(.cons cHeap cVal), (.cons (.d .bool) .nil), flotsamlaw07_HeapKeeps_noo⟩
noncomputable def flotsamlaw07_HeapKeeps_noo_L0 : LoopSum := { hc := ⟨[], [1, 2, 3, 7, 8, 9, 10, 12, 13, 14, 15], [], [], [0, 320, 464, 640, 800], [192, 256, 560, 561, 736, 737], 976⟩, h := ⟨[(1, (.d cI)), (2, (.d cI)), (3, (.pvar 0 [])), (7, (.pvar 320 [])), (8, (.pvar 464 [])), (9, (.d .bool)), (10, (.pvar 640 [])), (12, (.d .bool)), (13, (.pvar 800 [])), (14, (.d .bool)), (15, (.d cI))], [(0, (.d cHeap)), (320, (.cons (.row 192) (.cons (.row 256) (.d (.cons .bool .nil))))), (464, (.cons .undef (.cons .undef (.cons .undef (.d .nil))))), (640, (.cons (.row 560) (.cons (.row 561) (.d (.cons .bool .nil))))), (800, (.cons (.row 736) (.cons (.row 737) (.d (.cons .bool .nil)))))], [(192, (.int .u64), true), (256, cSpan, true), (560, (.int .u64), true), (561, cSpan, true), (736, (.int .u64), true), (737, cSpan, true)], 976⟩, xid := 0, oc := ⟨[], [1, 2, 3, 7, 8, 9, 10, 12, 13, 14], [], [], [0, 320, 464, 640, 800], [192, 256, 560, 561, 736, 737], 976⟩, o := ⟨[(1, (.d cI)), (2, (.d cI)), (3, (.pvar 0 [])), (7, (.pvar 320 [])), (8, (.pvar 464 [])), (9, (.d .bool)), (10, (.pvar 640 [])), (12, (.d .bool)), (13, (.pvar 800 [])), (14, (.d .bool))], [(0, (.d cHeap)), (320, (.cons (.row 192) (.cons (.row 256) (.d (.cons .bool .nil))))), (464, (.cons .undef (.cons .undef (.cons .undef (.d .nil))))), (640, (.cons (.row 560) (.cons (.row 561) (.d (.cons .bool .nil))))), (800, (.cons (.row 736) (.cons (.row 737) (.d (.cons .bool .nil)))))], [(192, (.int .u64), true), (256, cSpan, true), (560, (.int .u64), true), (561, cSpan, true), (736, (.int .u64), true), (737, cSpan, true)], 976⟩, rc := ⟨[], [], [], [], [], [], 976⟩, r := ⟨[], [], [], 976⟩, F := flotsamlaw07_HeapKeeps_noo_l0 }
noncomputable def flotsamlaw07_HeapKeeps_noo_L1 : LoopSum := { hc := ⟨[], [1, 2, 3, 7, 8, 9, 10, 12, 13, 14, 16], [], [], [0, 320, 464, 640, 800], [192, 256, 560, 561, 736, 737], 992⟩, h := ⟨[(1, (.d cI)), (2, (.d cI)), (3, (.pvar 0 [])), (7, (.pvar 320 [])), (8, (.pvar 464 [])), (9, (.d .bool)), (10, (.pvar 640 [])), (12, (.d .bool)), (13, (.pvar 800 [])), (14, (.d .bool)), (16, (.d cI))], [(0, (.d cHeap)), (320, (.cons (.row 192) (.cons (.row 256) (.d (.cons .bool .nil))))), (464, (.cons .undef (.cons .undef (.cons .undef (.d .nil))))), (640, (.cons (.row 560) (.cons (.row 561) (.d (.cons .bool .nil))))), (800, (.cons (.row 736) (.cons (.row 737) (.d (.cons .bool .nil)))))], [(192, (.int .u64), true), (256, cSpan, true), (560, (.int .u64), true), (561, cSpan, true), (736, (.int .u64), true), (737, cSpan, true)], 992⟩, xid := 2, oc := ⟨[], [1, 2, 3, 8, 9, 10, 12, 13, 14], [], [], [0, 464, 640, 800], [560, 561, 736, 737], 992⟩, o := ⟨[(1, (.d cI)), (2, (.d cI)), (3, (.pvar 0 [])), (8, (.pvar 464 [])), (9, (.d .bool)), (10, (.pvar 640 [])), (12, (.d .bool)), (13, (.pvar 800 [])), (14, (.d .bool))], [(0, (.d cHeap)), (464, (.cons .undef (.cons .undef (.cons .undef (.d .nil))))), (640, (.cons (.row 560) (.cons (.row 561) (.d (.cons .bool .nil))))), (800, (.cons (.row 736) (.cons (.row 737) (.d (.cons .bool .nil)))))], [(560, (.int .u64), true), (561, cSpan, true), (736, (.int .u64), true), (737, cSpan, true)], 992⟩, rc := ⟨[], [], [], [], [], [], 992⟩, r := ⟨[], [], [], 992⟩, F := flotsamlaw07_HeapKeeps_noo_l1 }
noncomputable def flotsamlaw07_HeapKeeps_noo_S : List (Nat × Sum) := [(21, flotsamref07_Form_sm), (31, flotsamref07_Same_sm), (43, flotsamlaw07_awake_sm), (51, heap_Open_n_sm), (52, flotsamref07_Open_sm), (53, heap_Close_n_sm), (55, heap_Free_o_sm), (56, flotsamref07_Free_sm), (57, heap_Lay_o_sm), (58, flotsamref07_Lay_sm)]
noncomputable def flotsamlaw07_HeapKeeps_noo_fl : List (Nat × Func) := []
noncomputable def flotsamlaw07_HeapKeeps_noo_es : List AE := [⟨8, 13, 0, 0, flotsamlaw07_HeapKeeps_noo_L0⟩, ⟨8, 13, 0, 2, flotsamlaw07_HeapKeeps_noo_L1⟩]
theorem flotsamlaw07_HeapKeeps_noo_den0 : (fun x => denStep TEv (look1 flotsamlaw07_HeapKeeps_noo_S) (look1 flotsamlaw07_HeapKeeps_noo_fl) (annOf flotsamlaw07_HeapKeeps_noo_es) 8 13 Go.Proofs.Tryd.f13.ntmps 0 (cat (bodyOf Go.Proofs.Tryd.f13) [true, true, true, true, true, true, true, true, false, true, false, false]) flotsamlaw07_HeapKeeps_noo_L0 x) = flotsamlaw07_HeapKeeps_noo_s0 := by kernel_rfl
theorem flotsamlaw07_HeapKeeps_noo_den1 : (fun x => denStep TEv (look1 flotsamlaw07_HeapKeeps_noo_S) (look1 flotsamlaw07_HeapKeeps_noo_fl) (annOf flotsamlaw07_HeapKeeps_noo_es) 8 13 Go.Proofs.Tryd.f13.ntmps 0 (cat (bodyOf Go.Proofs.Tryd.f13) [true, true, true, true, true, true, true, true, true, false, true, false, false]) flotsamlaw07_HeapKeeps_noo_L1 x) = flotsamlaw07_HeapKeeps_noo_s1 := by kernel_rfl
theorem flotsamlaw07_HeapKeeps_noo_den : (fun x => denFun TEv (look1 flotsamlaw07_HeapKeeps_noo_S) (look1 flotsamlaw07_HeapKeeps_noo_fl) (annOf flotsamlaw07_HeapKeeps_noo_es) 8 13 Go.Proofs.Tryd.f13 flotsamlaw07_HeapKeeps_noo_sm.a flotsamlaw07_HeapKeeps_noo_sm.r x) = flotsamlaw07_HeapKeeps_noo_sm.F := by kernel_rfl
theorem flotsamlaw07_HeapKeeps_noo_ok0 : AEok Go.Proofs.Tryd.prog TEv (look1 flotsamlaw07_HeapKeeps_noo_S) (look1 flotsamlaw07_HeapKeeps_noo_fl) (annOf flotsamlaw07_HeapKeeps_noo_es) ⟨8, 13, 0, 0, flotsamlaw07_HeapKeeps_noo_L0⟩ := aeok_of 9223372036854775808 Go.Proofs.Tryd.func13 (by kernel_rfl) flotsamlaw07_HeapKeeps_noo_den0 (by kernel_rfl)
theorem flotsamlaw07_HeapKeeps_noo_ok1 : AEok Go.Proofs.Tryd.prog TEv (look1 flotsamlaw07_HeapKeeps_noo_S) (look1 flotsamlaw07_HeapKeeps_noo_fl) (annOf flotsamlaw07_HeapKeeps_noo_es) ⟨8, 13, 0, 2, flotsamlaw07_HeapKeeps_noo_L1⟩ := aeok_of 9223372036854775808 Go.Proofs.Tryd.func13 (by kernel_rfl) flotsamlaw07_HeapKeeps_noo_den1 (by kernel_rfl)
theorem flotsamlaw07_HeapKeeps_noo_sem : SemOf Go.Proofs.Tryd.prog 13 flotsamlaw07_HeapKeeps_noo_sm :=
  semMk teOk (sl := flotsamlaw07_HeapKeeps_noo_S) (all_cons flotsamref07_Form_sem (all_cons flotsamref07_Same_sem (all_cons flotsamlaw07_awake_sem (all_cons heap_Open_n_sem (all_cons flotsamref07_Open_sem (all_cons heap_Close_n_sem (all_cons heap_Free_o_sem (all_cons flotsamref07_Free_sem (all_cons heap_Lay_o_sem (all_cons flotsamref07_Lay_sem all_nil)))))))))) (fl := flotsamlaw07_HeapKeeps_noo_fl) (all_nil) (es := flotsamlaw07_HeapKeeps_noo_es) Go.Proofs.Tryd.func13 (by kernel_rfl) rfl (all_cons flotsamlaw07_HeapKeeps_noo_ok0 (all_cons flotsamlaw07_HeapKeeps_noo_ok1 (all_nil))) rfl flotsamlaw07_HeapKeeps_noo_den

/-! ### flotsam/flotsamlaw07.HeapKeeps -/
def flotsamlaw07_HeapKeeps_non_s0r (v1 : Int) (v2 : Int) (v9 : Bool) (v12 : Bool) (v14 : Bool) (v15 : Int) (c0 : Heap) (c320 : Bool × Unit) (c464 : Unit) (c640 : Bool × Unit) (c800 : Unit) (r192 : List Int) (r256 : List Span) (r560 : List Int) (r561 : List Span) : Option (SRes (.cons cI (.cons cI (.cons .bool (.cons .bool (.cons .bool (.cons cI (.cons cHeap (.cons (.cons .bool .nil) (.cons .nil (.cons (.cons .bool .nil) (.cons .nil (.cons (.sl (.int .u64)) (.cons (.sl cSpan) (.cons (.sl (.int .u64)) (.cons (.sl cSpan) .nil))))))))))))))) (.cons cI (.cons cI (.cons .bool (.cons .bool (.cons .bool (.cons cHeap (.cons (.cons .bool .nil) (.cons .nil (.cons (.cons .bool .nil) (.cons .nil (.cons (.sl (.int .u64)) (.cons (.sl cSpan) (.cons (.sl (.int .u64)) (.cons (.sl cSpan) .nil)))))))))))))) .nil) :=
  bif decide (v15 < (r192.length : Int)) then
    bif decide (0 ≤ v15) then
      bif decide (v15 < (r192.length : Int)) then
        some (.next (v1, v2, v9, v12, v14, wi64 (v15 + 1), c0, c320, c464, c640, c800, r192.set v15.toNat 77, r256, r560, r561, ()))
      else none
    else none
  else
  some (.fin (.out (v1, v2, v9, v12, v14, c0, c320, c464, c640, c800, r192, r256, r560, r561, ())))
def flotsamlaw07_HeapKeeps_non_s0 (x : Int × Int × Bool × Bool × Bool × Int × Heap × (Bool × Unit) × Unit × (Bool × Unit) × Unit × (List Int) × (List Span) × (List Int) × (List Span) × Unit) : Option (SRes (.cons cI (.cons cI (.cons .bool (.cons .bool (.cons .bool (.cons cI (.cons cHeap (.cons (.cons .bool .nil) (.cons .nil (.cons (.cons .bool .nil) (.cons .nil (.cons (.sl (.int .u64)) (.cons (.sl cSpan) (.cons (.sl (.int .u64)) (.cons (.sl cSpan) .nil))))))))))))))) (.cons cI (.cons cI (.cons .bool (.cons .bool (.cons .bool (.cons cHeap (.cons (.cons .bool .nil) (.cons .nil (.cons (.cons .bool .nil) (.cons .nil (.cons (.sl (.int .u64)) (.cons (.sl cSpan) (.cons (.sl (.int .u64)) (.cons (.sl cSpan) .nil)))))))))))))) .nil) := flotsamlaw07_HeapKeeps_non_s0r x.1 x.2.1 x.2.2.1 x.2.2.2.1 x.2.2.2.2.1 x.2.2.2.2.2.1 x.2.2.2.2.2.2.1 x.2.2.2.2.2.2.2.1 x.2.2.2.2.2.2.2.2.1 x.2.2.2.2.2.2.2.2.2.1 x.2.2.2.2.2.2.2.2.2.2.1 x.2.2.2.2.2.2.2.2.2.2.2.1 x.2.2.2.2.2.2.2.2.2.2.2.2.1 x.2.2.2.2.2.2.2.2.2.2.2.2.2.1 x.2.2.2.2.2.2.2.2.2.2.2.2.2.2.1
def flotsamlaw07_HeapKeeps_non_l0 (x : Int × Int × Bool × Bool × Bool × Int × Heap × (Bool × Unit) × Unit × (Bool × Unit) × Unit × (List Int) × (List Span) × (List Int) × (List Span) × Unit) : Option (LRes (.cons cI (.cons cI (.cons .bool (.cons .bool (.cons .bool (.cons cHeap (.cons (.cons .bool .nil) (.cons .nil (.cons (.cons .bool .nil) (.cons .nil (.cons (.sl (.int .u64)) (.cons (.sl cSpan) (.cons (.sl (.int .u64)) (.cons (.sl cSpan) .nil)))))))))))))) .nil) := iterL (h := (.cons cI (.cons cI (.cons .bool (.cons .bool (.cons .bool (.cons cI (.cons cHeap (.cons (.cons .bool .nil) (.cons .nil (.cons (.cons .bool .nil) (.cons .nil (.cons (.sl (.int .u64)) (.cons (.sl cSpan) (.cons (.sl (.int .u64)) (.cons (.sl cSpan) .nil)))))))))))))))) (o := (.cons cI (.cons cI (.cons .bool (.cons .bool (.cons .bool (.cons cHeap (.cons (.cons .bool .nil) (.cons .nil (.cons (.cons .bool .nil) (.cons .nil (.cons (.sl (.int .u64)) (.cons (.sl cSpan) (.cons (.sl (.int .u64)) (.cons (.sl cSpan) .nil))))))))))))))) (r := .nil) flotsamlaw07_HeapKeeps_non_s0 9223372036854775808 x
def flotsamlaw07_HeapKeeps_non_s1r (v1 : Int) (v2 : Int) (v9 : Bool) (v12 : Bool) (v14 : Bool) (v16 : Int) (c0 : Heap) (c320 : Bool × Unit) (c464 : Unit) (c640 : Bool × Unit) (c800 : Unit) (r192 : List Int) (r256 : List Span) (r560 : List Int) (r561 : List Span) : Option (SRes (.cons cI (.cons cI (.cons .bool (.cons .bool (.cons .bool (.cons cI (.cons cHeap (.cons (.cons .bool .nil) (.cons .nil (.cons (.cons .bool .nil) (.cons .nil (.cons (.sl (.int .u64)) (.cons (.sl cSpan) (.cons (.sl (.int .u64)) (.cons (.sl cSpan) .nil))))))))))))))) (.cons cI (.cons cI (.cons .bool (.cons .bool (.cons .bool (.cons cHeap (.cons .nil (.cons (.cons .bool .nil) (.cons .nil (.cons (.sl (.int .u64)) (.cons (.sl cSpan) .nil))))))))))) .nil) :=
  bif decide (v16 < (r256.length : Int)) then
    bif decide (0 ≤ v16) then
      bif decide (v16 < (r256.length : Int)) then
        some (.next (v1, v2, v9, v12, v14, wi64 (v16 + 1), c0, c320, c464, c640, c800, r192, r256.set v16.toNat (9, 0, 0, ()), r560, r561, ()))
      else none
    else none
  else
  some (.fin (.out (v1, v2, v9, v12, v14, c0, c464, c640, c800, r560, r561, ())))
def flotsamlaw07_HeapKeeps_non_s1 (x : Int × Int × Bool × Bool × Bool × Int × Heap × (Bool × Unit) × Unit × (Bool × Unit) × Unit × (List Int) × (List Span) × (List Int) × (List Span) × Unit) : Option (SRes (.cons cI (.cons cI (.cons .bool (.cons .bool (.cons .bool (.cons cI (.cons cHeap (.cons (.cons .bool .nil) (.cons .nil (.cons (.cons .bool .nil) (.cons .nil (.cons (.sl (.int .u64)) (.cons (.sl cSpan) (.cons (.sl (.int .u64)) (.cons (.sl cSpan) .nil))))))))))))))) (.cons cI (.cons cI (.cons .bool (.cons .bool (.cons .bool (.cons cHeap (.cons .nil (.cons (.cons .bool .nil) (.cons .nil (.cons (.sl (.int .u64)) (.cons (.sl cSpan) .nil))))))))))) .nil) := flotsamlaw07_HeapKeeps_non_s1r x.1 x.2.1 x.2.2.1 x.2.2.2.1 x.2.2.2.2.1 x.2.2.2.2.2.1 x.2.2.2.2.2.2.1 x.2.2.2.2.2.2.2.1 x.2.2.2.2.2.2.2.2.1 x.2.2.2.2.2.2.2.2.2.1 x.2.2.2.2.2.2.2.2.2.2.1 x.2.2.2.2.2.2.2.2.2.2.2.1 x.2.2.2.2.2.2.2.2.2.2.2.2.1 x.2.2.2.2.2.2.2.2.2.2.2.2.2.1 x.2.2.2.2.2.2.2.2.2.2.2.2.2.2.1
def flotsamlaw07_HeapKeeps_non_l1 (x : Int × Int × Bool × Bool × Bool × Int × Heap × (Bool × Unit) × Unit × (Bool × Unit) × Unit × (List Int) × (List Span) × (List Int) × (List Span) × Unit) : Option (LRes (.cons cI (.cons cI (.cons .bool (.cons .bool (.cons .bool (.cons cHeap (.cons .nil (.cons (.cons .bool .nil) (.cons .nil (.cons (.sl (.int .u64)) (.cons (.sl cSpan) .nil))))))))))) .nil) := iterL (h := (.cons cI (.cons cI (.cons .bool (.cons .bool (.cons .bool (.cons cI (.cons cHeap (.cons (.cons .bool .nil) (.cons .nil (.cons (.cons .bool .nil) (.cons .nil (.cons (.sl (.int .u64)) (.cons (.sl cSpan) (.cons (.sl (.int .u64)) (.cons (.sl cSpan) .nil)))))))))))))))) (o := (.cons cI (.cons cI (.cons .bool (.cons .bool (.cons .bool (.cons cHeap (.cons .nil (.cons (.cons .bool .nil) (.cons .nil (.cons (.sl (.int .u64)) (.cons (.sl cSpan) .nil)))))))))))) (r := .nil) flotsamlaw07_HeapKeeps_non_s1 9223372036854775808 x
def flotsamlaw07_HeapKeeps_non_r (a0 : Heap) (a1 : Int) (a2 : Int) : Option (Bool × Unit) :=
  (flotsamlaw07_awake ()).bind fun y1 =>
  bif !y1.1 then
    (flotsamlaw07_awake ()).bind fun y2 =>
    some (y2.1, ())
  else
  (flotsamref07_Form (a0, ())).bind fun y3 =>
  bif !y3.1 then
    (flotsamlaw07_awake ()).bind fun y4 =>
    some (y4.1, ())
  else
  bif decide ((0 + a0.1.length) * 8 ≤ 140737488355328) then
    bif decide ((0 + a0.2.1.length) * 24 ≤ 140737488355328) then
      (heap_Open_n ((a0.1, a0.2.1, a0.2.2.1, ()), a1, a2, ())).bind fun y5 =>
      (heap_Lay_o ((a0.1, a0.2.1, a0.2.2.1, ()), a1, a2, ())).bind fun y6 =>
      (heap_Free_n ((a0.1, a0.2.1, a0.2.2.1, ()), a1, ())).bind fun y7 =>
      (heap_Close_n ((a0.1, a0.2.1, a0.2.2.1, ()), a1, ())).bind fun y8 =>
      (flotsamref07_Same ((a0.1, a0.2.1, a0.2.2.1, ()), a0, ())).bind fun y9 =>
      bif !y9.1 then
        some (false, ())
      else
      (flotsamlaw07_HeapKeeps_non_l0 (a1, a2, y5.2.1, y6.2.2.1, y7.2.1, 0, a0, (a0.2.2.1, ()), (), y6.1.2.2, (), a0.1, a0.2.1, y6.1.1, y6.1.2.1, ())).bind fun s10 => match s10 with
      | .out s10 =>
        (flotsamlaw07_HeapKeeps_non_l1 (s10.1, s10.2.1, s10.2.2.1, s10.2.2.2.1, s10.2.2.2.2.1, 0, s10.2.2.2.2.2.1, s10.2.2.2.2.2.2.1, s10.2.2.2.2.2.2.2.1, s10.2.2.2.2.2.2.2.2.1, s10.2.2.2.2.2.2.2.2.2.1, s10.2.2.2.2.2.2.2.2.2.2.1, s10.2.2.2.2.2.2.2.2.2.2.2.1, s10.2.2.2.2.2.2.2.2.2.2.2.2.1, s10.2.2.2.2.2.2.2.2.2.2.2.2.2.1, ())).bind fun s11 => match s11 with
        | .out s11 =>
          (flotsamref07_Open (s11.2.2.2.2.2.1, s11.1, s11.2.1, ())).bind fun y12 =>
          (flotsamref07_Lay (s11.2.2.2.2.2.1, s11.1, s11.2.1, ())).bind fun y13 =>
          (flotsamref07_Free (s11.2.2.2.2.2.1, s11.1, ())).bind fun y14 =>
          bif !s11.2.2.1 then
            bif !s11.2.2.2.1 then
              bif !s11.2.2.2.2.1 then
                some (true, ())
              else none
            else
            (flotsamref07_Same ((s11.2.2.2.2.2.2.2.2.2.1, s11.2.2.2.2.2.2.2.2.2.2.1, s11.2.2.2.2.2.2.2.1), y13.1, ())).bind fun y15 =>
            bif y15.1 then
              bif !s11.2.2.2.2.1 then
                some (true, ())
              else none
            else
            some (false, ())
          else none
        | .ret s11 =>
          none
      | .ret s10 =>
        none
    else none
  else none
def flotsamlaw07_HeapKeeps_non (x : Heap × Val) : Option (Bool × Unit) := flotsamlaw07_HeapKeeps_non_r x.1 x.2.1 x.2.2.1
noncomputable def flotsamlaw07_HeapKeeps_non_sm : Sum := ⟨(.cons cHeap cVal), (.cons (.d .bool) .nil), flotsamlaw07_HeapKeeps_non⟩
noncomputable def flotsamlaw07_HeapKeeps_non_L0 : LoopSum := { hc := ⟨[], [1, 2, 3, 7, 8, 9, 10, 12, 13, 14, 15], [], [], [0, 320, 464, 640, 800], [192, 256, 560, 561], 976⟩, h := ⟨[(1, (.d cI)), (2, (.d cI)), (3, (.pvar 0 [])), (7, (.pvar 320 [])), (8, (.pvar 464 [])), (9, (.d .bool)), (10, (.pvar 640 [])), (12, (.d .bool)), (13, (.pvar 800 [])), (14, (.d .bool)), (15, (.d cI))], [(0, (.d cHeap)), (320, (.cons (.row 192) (.cons (.row 256) (.d (.cons .bool .nil))))), (464, (.cons .undef (.cons .undef (.cons .undef (.d .nil))))), (640, (.cons (.row 560) (.cons (.row 561) (.d (.cons .bool .nil))))), (800, (.cons .undef (.cons .undef (.cons .undef (.d .nil)))))], [(192, (.int .u64), true), (256, cSpan, true), (560, (.int .u64), true), (561, cSpan, true)], 976⟩, xid := 0, oc := ⟨[], [1, 2, 3, 7, 8, 9, 10, 12, 13, 14], [], [], [0, 320, 464, 640, 800], [192, 256, 560, 561], 976⟩, o := ⟨[(1, (.d cI)), (2, (.d cI)), (3, (.pvar 0 [])), (7, (.pvar 320 [])), (8, (.pvar 464 [])), (9, (.d .bool)), (10, (.pvar 640 [])), (12, (.d .bool)), (13, (.pvar 800 [])), (14, (.d .bool))], [(0, (.d cHeap)), (320, (.cons (.row 192) (.cons (.row 256) (.d (.cons .bool .nil))))), (464, (.cons .undef (.cons .undef (.cons .undef (.d .nil))))), (640, (.cons (.row 560) (.cons (.row 561) (.d (.cons .bool .nil))))), (800, (.cons .undef (.cons .undef (.cons .undef (.d .nil)))))], [(192, (.int .u64), true), (256, cSpan, true), (560, (.int .u64), true), (561, cSpan, true)], 976⟩, rc := ⟨[], [], [], [], [], [], 976⟩, r := ⟨[], [], [], 976⟩, F := flotsamlaw07_HeapKeeps_non_l0 }
noncomputable def flotsamlaw07_HeapKeeps_non_L1 : LoopSum := { hc := ⟨[], [1, 2, 3, 7, 8, 9, 10, 12, 13, 14, 16], [], [], [0, 320, 464, 640, 800], [192, 256, 560, 561], 992⟩, h := ⟨[(1, (.d cI)), (2, (.d cI)), (3, (.pvar 0 [])), (7, (.pvar 320 [])), (8, (.pvar 464 [])), (9, (.d .bool)), (10, (.pvar 640 [])), (12, (.d .bool)), (13, (.pvar 800 [])), (14, (.d .bool)), (16, (.d cI))], [(0, (.d cHeap)), (320, (.cons (.row 192) (.cons (.row 256) (.d (.cons .bool .nil))))), (464, (.cons .undef (.cons .undef (.cons .undef (.d .nil))))), (640, (.cons (.row 560) (.cons (.row 561) (.d (.cons .bool .nil))))), (800, (.cons .undef (.cons .undef (.cons .undef (.d .nil)))))], [(192, (.int .u64), true), (256, cSpan, true), (560, (.int .u64), true), (561, cSpan, true)], 992⟩, xid := 2, oc := ⟨[], [1, 2, 3, 8, 9, 10, 12, 13, 14], [], [], [0, 464, 640, 800], [560, 561], 992⟩, o := ⟨[(1, (.d cI)), (2, (.d cI)), (3, (.pvar 0 [])), (8, (.pvar 464 [])), (9, (.d .bool)), (10, (.pvar 640 [])), (12, (.d .bool)), (13, (.pvar 800 [])), (14, (.d .bool))], [(0, (.d cHeap)), (464, (.cons .undef (.cons .undef (.cons .undef (.d .nil))))), (640, (.cons (.row 560) (.cons (.row 561) (.d (.cons .bool .nil))))), (800, (.cons .undef (.cons .undef (.cons .undef (.d .nil)))))], [(560, (.int .u64), true), (561, cSpan, true)], 992⟩, rc := ⟨[], [], [], [], [], [], 992⟩, r := ⟨[], [], [], 992⟩, F := flotsamlaw07_HeapKeeps_non_l1 }
noncomputable def flotsamlaw07_HeapKeeps_non_S : List (Nat × Sum) := [(21, flotsamref07_Form_sm), (31, flotsamref07_Same_sm), (43, flotsamlaw07_awake_sm), (51, heap_Open_n_sm), (52, flotsamref07_Open_sm), (53, heap_Close_n_sm), (55, heap_Free_n_sm), (56, flotsamref07_Free_sm), (57, heap_Lay_o_sm), (58, flotsamref07_Lay_sm)]
noncomputable def flotsamlaw07_HeapKeeps_non_fl : List (Nat × Func) := []
noncomputable def flotsamlaw07_HeapKeeps_non_es : List AE := [⟨8, 13, 0, 0, flotsamlaw07_HeapKeeps_non_L0⟩, ⟨8, 13, 0, 2, flotsamlaw07_HeapKeeps_non_L1⟩]
theorem flotsamlaw07_HeapKeeps_non_den0 : (fun x => denStep TEv (look1 flotsamlaw07_HeapKeeps_non_S) (look1 flotsamlaw07_HeapKeeps_non_fl) (annOf flotsamlaw07_HeapKeeps_non_es) 8 13 Go.Proofs.Tryd.f13.ntmps 0 (cat (bodyOf Go.Proofs.Tryd.f13) [true, true, true, true, true, true, true, true, false, true, false, false]) flotsamlaw07_HeapKeeps_non_L0 x) = flotsamlaw07_HeapKeeps_non_s0 := by kernel_rfl
theorem flotsamlaw07_HeapKeeps_non_den1 : (fun x => denStep TEv (look1 flotsamlaw07_HeapKeeps_non_S) (look1 flotsamlaw07_HeapKeeps_non_fl) (annOf flotsamlaw07_HeapKeeps_non_es) 8 13 Go.Proofs.Tryd.f13.ntmps 0 (cat (bodyOf Go.Proofs.Tryd.f13) [true, true, true, true, true, true, true, true, true, false, true, false, false]) flotsamlaw07_HeapKeeps_non_L1 x) = flotsamlaw07_HeapKeeps_non_s1 := by kernel_rfl
theorem flotsamlaw07_HeapKeeps_non_den : (fun x => denFun TEv (look1 flotsamlaw07_HeapKeeps_non_S) (look1 flotsamlaw07_HeapKeeps_non_fl) (annOf flotsamlaw07_HeapKeeps_non_es) 8 13 Go.Proofs.Tryd.f13 flotsamlaw07_HeapKeeps_non_sm.a flotsamlaw07_HeapKeeps_non_sm.r x) = flotsamlaw07_HeapKeeps_non_sm.F := by kernel_rfl
theorem flotsamlaw07_HeapKeeps_non_ok0 : AEok Go.Proofs.Tryd.prog TEv (look1 flotsamlaw07_HeapKeeps_non_S) (look1 flotsamlaw07_HeapKeeps_non_fl) (annOf flotsamlaw07_HeapKeeps_non_es) ⟨8, 13, 0, 0, flotsamlaw07_HeapKeeps_non_L0⟩ := aeok_of 9223372036854775808 Go.Proofs.Tryd.func13 (by kernel_rfl) flotsamlaw07_HeapKeeps_non_den0 (by kernel_rfl)
theorem flotsamlaw07_HeapKeeps_non_ok1 : AEok Go.Proofs.Tryd.prog TEv (look1 flotsamlaw07_HeapKeeps_non_S) (look1 flotsamlaw07_HeapKeeps_non_fl) (annOf flotsamlaw07_HeapKeeps_non_es) ⟨8, 13, 0, 2, flotsamlaw07_HeapKeeps_non_L1⟩ := aeok_of 9223372036854775808 Go.Proofs.Tryd.func13 (by kernel_rfl) flotsamlaw07_HeapKeeps_non_den1 (by kernel_rfl)
theorem flotsamlaw07_HeapKeeps_non_sem : SemOf Go.Proofs.Tryd.prog 13 flotsamlaw07_HeapKeeps_non_sm :=
  semMk teOk (sl := flotsamlaw07_HeapKeeps_non_S) (all_cons flotsamref07_Form_sem (all_cons flotsamref07_Same_sem (all_cons flotsamlaw07_awake_sem (all_cons heap_Open_n_sem (all_cons flotsamref07_Open_sem (all_cons heap_Close_n_sem (all_cons heap_Free_n_sem (all_cons flotsamref07_Free_sem (all_cons heap_Lay_o_sem (all_cons flotsamref07_Lay_sem all_nil)))))))))) (fl := flotsamlaw07_HeapKeeps_non_fl) (all_nil) (es := flotsamlaw07_HeapKeeps_non_es) Go.Proofs.Tryd.func13 (by kernel_rfl) rfl (all_cons flotsamlaw07_HeapKeeps_non_ok0 (all_cons flotsamlaw07_HeapKeeps_non_ok1 (all_nil))) rfl flotsamlaw07_HeapKeeps_non_den

/-! ### flotsam/flotsamlaw07.HeapKeeps -/
def flotsamlaw07_HeapKeeps_nno_s0r (v1 : Int) (v2 : Int) (v9 : Bool) (v12 : Bool) (v14 : Bool) (v15 : Int) (c0 : Heap) (c320 : Bool × Unit) (c464 : Unit) (c640 : Unit) (c800 : Bool × Unit) (r192 : List Int) (r256 : List Span) (r736 : List Int) (r737 : List Span) : Option (SRes (.cons cI (.cons cI (.cons .bool (.cons .bool (.cons .bool (.cons cI (.cons cHeap (.cons (.cons .bool .nil) (.cons .nil (.cons .nil (.cons (.cons .bool .nil) (.cons (.sl (.int .u64)) (.cons (.sl cSpan) (.cons (.sl (.int .u64)) (.cons (.sl cSpan) .nil))))))))))))))) (.cons cI (.cons cI (.cons .bool (.cons .bool (.cons .bool (.cons cHeap (.cons (.cons .bool .nil) (.cons .nil (.cons .nil (.cons (.cons .bool .nil) (.cons (.sl (.int .u64)) (.cons (.sl cSpan) (.cons (.sl (.int .u64)) (.cons (.sl cSpan) .nil)))))))))))))) .nil) :=
  bif decide (v15 < (r192.length : Int)) then
    bif decide (0 ≤ v15) then
      bif decide (v15 < (r192.length : Int)) then
        some (.next (v1, v2, v9, v12, v14, wi64 (v15 + 1), c0, c320, c464, c640, c800, r192.set v15.toNat 77, r256, r736, r737, ()))
      else none
    else none
  else
  some (.fin (.out (v1, v2, v9, v12, v14, c0, c320, c464, c640, c800, r192, r256, r736, r737, ())))
def flotsamlaw07_HeapKeeps_nno_s0 (x : Int × Int × Bool × Bool × Bool × Int × Heap × (Bool × Unit) × Unit × Unit × (Bool × Unit) × (List Int) × (List Span) × (List Int) × (List Span) × Unit) : Option (SRes (.cons cI (.cons cI (.cons .bool (.cons .bool (.cons .bool (.cons cI (.cons cHeap (.cons (.cons .bool .nil) (.cons .nil (.cons .nil (.cons (.cons .bool .nil) (.cons (.sl (.int .u64)) (.cons (.sl cSpan) (.cons (.sl (.int .u64)) (.cons (.sl cSpan) .nil))))))))))))))) (.cons cI (.cons cI (.cons .bool (.cons .bool (.cons .bool (.cons cHeap (.cons (.cons .bool .nil) (.cons .nil (.cons .nil (.cons (.cons .bool .nil) (.cons (.sl (.int .u64)) (.cons (.sl cSpan) (.cons (.sl (.int .u64)) (.cons (.sl cSpan) .nil)))))))))))))) .nil) := flotsamlaw07_HeapKeeps_nno_s0r x.1 x.2.1 x.2.2.1 x.2.2.2.1 x.2.2.2.2.1 x.2.2.2.2.2.1 x.2.2.2.2.2.2.1 x.2.2.2.2.2.2.2.1 x.2.2.2.2.2.2.2.2.1 x.2.2.2.2.2.2.2.2.2.1 x.2.2.2.2.2.2.2.2.2.2.1 x.2.2.2.2.2.2.2.2.2.2.2.1 x.2.2.2.2.2.2.2.2.2.2.2.2.1 x.2.2.2.2.2.2.2.2.2.2.2.2.2.1 x.2.2.2.2.2.2.2.2.2.2.2.2.2.2.1
def flotsamlaw07_HeapKeeps_nno_l0 (x : Int × Int × Bool × Bool × Bool × Int × Heap × (Bool × Unit) × Unit × Unit × (Bool × Unit) × (List Int) × (List Span) × (List Int) × (List Span) × Unit) : Option (LRes (.cons cI (.cons cI (.cons .bool (.cons .bool (.cons .bool (.cons cHeap (.cons (.cons .bool .nil) (.cons .nil (.cons .nil (.cons (.cons .bool .nil) (.cons (.sl (.int .u64)) (.cons (.sl cSpan) (.cons (.sl (.int .u64)) (.cons (.sl cSpan) .nil)))))))))))))) .nil) := iterL (h := (.cons cI (.cons cI (.cons .bool (.cons .bool (.cons .bool (.cons cI (.cons cHeap (.cons (.cons .bool .nil) (.cons .nil (.cons .nil (.cons (.cons .bool .nil) (.cons (.sl (.int .u64)) (.cons (.sl cSpan) (.cons (.sl (.int .u64)) (.cons (.sl cSpan) .nil)))))))))))))))) (o := (.cons cI (.cons cI (.cons .bool (.cons .bool (.cons .bool (.cons cHeap (.cons (.cons .bool .nil) (.cons .nil (.cons .nil (.cons (.cons .bool .nil) (.cons (.sl (.int .u64)) (.cons (.sl cSpan) (.cons (.sl (.int .u64)) (.cons (.sl cSpan) .nil))))))))))))))) (r := .nil) flotsamlaw07_HeapKeeps_nno_s0 9223372036854775808 x
def flotsamlaw07_HeapKeeps_nno_s1r (v1 : Int) (v2 : Int) (v9 : Bool) (v12 : Bool) (v14 : Bool) (v16 : Int) (c0 : Heap) (c320 : Bool × Unit) (c464 : Unit) (c640 : Unit) (c800 : Bool × Unit) (r192 : List Int) (r256 : List Span) (r736 : List Int) (r737 : List Span) : Option (SRes (.cons cI (.cons cI (.cons .bool (.cons .bool (.cons .bool (.cons cI (.cons cHeap (.cons (.cons .bool .nil) (.cons .nil (.cons .nil (.cons (.cons .bool .nil) (.cons (.sl (.int .u64)) (.cons (.sl cSpan) (.cons (.sl (.int .u64)) (.cons (.sl cSpan) .nil))))))))))))))) (.cons cI (.cons cI (.cons .bool (.cons .bool (.cons .bool (.cons cHeap (.cons .nil (.cons .nil (.cons (.cons .bool .nil) (.cons (.sl (.int .u64)) (.cons (.sl cSpan) .nil))))))))))) .nil) :=
  bif decide (v16 < (r256.length : Int)) then
    bif decide (0 ≤ v16) then
      bif decide (v16 < (r256.length : Int)) then
        some (.next (v1, v2, v9, v12, v14, wi64 (v16 + 1), c0, c320, c464, c640, c800, r192, r256.set v16.toNat (9, 0, 0, ()), r736, r737, ()))
      else none
    else none
  else
  some (.fin (.out (v1, v2, v9, v12, v14, c0, c464, c640, c800, r736, r737, ())))
def flotsamlaw07_HeapKeeps_nno_s1 (x : Int × Int × Bool × Bool × Bool × Int × Heap × (Bool × Unit) × Unit × Unit × (Bool × Unit) × (List Int) × (List Span) × (List Int) × (List Span) × Unit) : Option (SRes (.cons cI (.cons cI (.cons .bool (.cons .bool (.cons .bool (.cons cI (.cons cHeap (.cons (.cons .bool .nil) (.cons .nil (.cons .nil (.cons (.cons .bool .nil) (.cons (.sl (.int .u64)) (.cons (.sl cSpan) (.cons (.sl (.int .u64)) (.cons (.sl cSpan) .nil))))))))))))))) (.cons cI (.cons cI (.cons .bool (.cons .bool (.cons .bool (.cons cHeap (.cons .nil (.cons .nil (.cons (.cons .bool .nil) (.cons (.sl (.int .u64)) (.cons (.sl cSpan) .nil))))))))))) .nil) := flotsamlaw07_HeapKeeps_nno_s1r x.1 x.2.1 x.2.2.1 x.2.2.2.1 x.2.2.2.2.1 x.2.2.2.2.2.1 x.2.2.2.2.2.2.1 x.2.2.2.2.2.2.2.1 x.2.2.2.2.2.2.2.2.1 x.2.2.2.2.2.2.2.2.2.1 x.2.2.2.2.2.2.2.2.2.2.1 x.2.2.2.2.2.2.2.2.2.2.2.1 x.2.2.2.2.2.2.2.2.2.2.2.2.1 x.2.2.2.2.2.2.2.2.2.2.2.2.2.1 x.2.2.2.2.2.2.2.2.2.2.2.2.2.2.1
def flotsamlaw07_HeapKeeps_nno_l1 (x : Int × Int × Bool × Bool × Bool × Int × Heap × (Bool × Unit) × Unit × Unit × (Bool × Unit) × (List Int) × (List Span) × (List Int) × (List Span) × Unit) : Option (LRes (.cons cI (.cons cI (.cons .bool (.cons .bool (.cons .bool (.cons cHeap (.cons .nil (.cons .nil (.cons (.cons .bool .nil) (.cons (.sl (.int .u64)) (.cons (.sl cSpan) .nil))))))))))) .nil) := iterL (h := (.cons cI (.cons cI (.cons .bool (.cons .bool (.cons .bool (.cons cI (.cons cHeap (.cons (.cons .bool .nil) (.cons .nil (.cons .nil (.cons (.cons .bool .nil) (.cons (.sl (.int .u64)) (.cons (.sl cSpan) (.cons (.sl (.int .u64)) (.cons (.sl cSpan) .nil)))))))))))))))) (o := (.cons cI (.cons cI (.cons .bool (.cons .bool (.cons .bool (.cons cHeap (.cons .nil (.cons .nil (.cons (.cons .bool .nil) (.cons (.sl (.int .u64)) (.cons (.sl cSpan) .nil)))))))))))) (r := .nil) flotsamlaw07_HeapKeeps_nno_s1 9223372036854775808 x
def flotsamlaw07_HeapKeeps_nno_r (a0 : Heap) (a1 : Int) (a2 : Int) : Option (Bool × Unit) :=
  (flotsamlaw07_awake ()).bind fun y1 =>
  bif !y1.1 then
    (flotsamlaw07_awake ()).bind fun y2 =>
    some (y2.1, ())
  else
  (flotsamref07_Form (a0, ())).bind fun y3 =>
  bif !y3.1 then
    (flotsamlaw07_awake ()).bind fun y4 =>
    some (y4.1, ())
  else
  bif decide ((0 + a0.1.length) * 8 ≤ 140737488355328) then
    bif decide ((0 + a0.2.1.length) * 24 ≤ 140737488355328) then
      (heap_Open_n ((a0.1, a0.2.1, a0.2.2.1, ()), a1, a2, ())).bind fun y5 =>
      (heap_Lay_n ((a0.1, a0.2.1, a0.2.2.1, ()), a1, a2, ())).bind fun y6 =>
      (heap_Free_o ((a0.1, a0.2.1, a0.2.2.1, ()), a1, ())).bind fun y7 =>
      (heap_Close_n ((a0.1, a0.2.1, a0.2.2.1, ()), a1, ())).bind fun y8 =>
      (flotsamref07_Same ((a0.1, a0.2.1, a0.2.2.1, ()), a0, ())).bind fun y9 =>
      bif !y9.1 then
        some (false, ())
      else
      (flotsamlaw07_HeapKeeps_nno_l0 (a1, a2, y5.2.1, y6.2.2.1, y7.2.1, 0, a0, (a0.2.2.1, ()), (), (), y7.1.2.2, a0.1, a0.2.1, y7.1.1, y7.1.2.1, ())).bind fun s10 => match s10 with
      | .out s10 =>
        (flotsamlaw07_HeapKeeps_nno_l1 (s10.1, s10.2.1, s10.2.2.1, s10.2.2.2.1, s10.2.2.2.2.1, 0, s10.2.2.2.2.2.1, s10.2.2.2.2.2.2.1, s10.2.2.2.2.2.2.2.1, s10.2.2.2.2.2.2.2.2.1, s10.2.2.2.2.2.2.2.2.2.1, s10.2.2.2.2.2.2.2.2.2.2.1, s10.2.2.2.2.2.2.2.2.2.2.2.1, s10.2.2.2.2.2.2.2.2.2.2.2.2.1, s10.2.2.2.2.2.2.2.2.2.2.2.2.2.1, ())).bind fun s11 => match s11 with
        | .out s11 =>
          (flotsamref07_Open (s11.2.2.2.2.2.1, s11.1, s11.2.1, ())).bind fun y12 =>
          (flotsamref07_Lay (s11.2.2.2.2.2.1, s11.1, s11.2.1, ())).bind fun y13 =>
          (flotsamref07_Free (s11.2.2.2.2.2.1, s11.1, ())).bind fun y14 =>
          bif !s11.2.2.1 then
            bif !s11.2.2.2.1 then
              bif !s11.2.2.2.2.1 then
                some (true, ())
              else
              (flotsamref07_Same ((s11.2.2.2.2.2.2.2.2.2.1, s11.2.2.2.2.2.2.2.2.2.2.1, s11.2.2.2.2.2.2.2.2.1), y14.1, ())).bind fun y15 =>
              some (y15.1, ())
            else none
          else none
        | .ret s11 =>
          none
      | .ret s10 =>
        none
    else none
  else none
def flotsamlaw07_HeapKeeps_nno (x : Heap × Val) : Option (Bool × Unit) := flotsamlaw07_HeapKeeps_nno_r x.1 x.2.1 x.2.2.1
noncomputable def flotsamlaw07_HeapKeeps_nno_sm : Sum := ⟨(.cons cHeap cVal), (.cons (.d .bool) .nil), flotsamlaw07_HeapKeeps_nno⟩
noncomputable def flotsamlaw07_HeapKeeps_nno_L0 : LoopSum := { hc := ⟨[], [1, 2, 3, 7, 8, 9, 10, 12, 13, 14, 15], [], [], [0, 320, 464, 640, 800], [192, 256, 736, 737], 976⟩, h := ⟨[(1, (.d cI)), (2, (.d cI)), (3, (.pvar 0 [])), (7, (.pvar 320 [])), (8, (.pvar 464 [])), (9, (.d .bool)), (10, (.pvar 640 [])), (12, (.d .bool)), (13, (.pvar 800 [])), (14, (.d .bool)), (15, (.d cI))], [(0, (.d cHeap)), (320, (.cons (.row 192) (.cons (.row 256) (.d (.cons .bool .nil))))), (464, (.cons .undef (.cons .undef (.cons .undef (.d .nil))))), (640, (.cons .undef (.cons .undef (.cons .undef (.d .nil))))), (800, (.cons (.row 736) (.cons (.row 737) (.d (.cons .bool .nil)))))], [(192, (.int .u64), true), (256, cSpan, true), (736, (.int .u64), true), (737, cSpan, true)], 976⟩, xid := 0, oc := ⟨[], [1, 2, 3, 7, 8, 9, 10, 12, 13, 14], [], [], [0, 320, 464, 640, 800], [192, 256, 736, 737], 976⟩, o := ⟨[(1, (.d cI)), (2, (.d cI)), (3, (.pvar 0 [])), (7, (.pvar 320 [])), (8, (.pvar 464 [])), (9, (.d .bool)), (10, (.pvar 640 [])), (12, (.d .bool)), (13, (.pvar 800 [])), (14, (.d .bool))], [(0, (.d cHeap)), (320, (.cons (.row 192) (.cons (.row 256) (.d (.cons .bool .nil))))), (464, (.cons .undef (.cons .undef (.cons .undef (.d .nil))))), (640, (.cons .undef (.cons .undef (.cons .undef (.d .nil))))), (800, (.cons (.row 736) (.cons (.row 737) (.d (.cons .bool .nil)))))], [(192, (.int .u64), true), (256, cSpan, true), (736, (.int .u64), true), (737, cSpan, true)], 976⟩, rc := ⟨[], [], [], [], [], [], 976⟩, r := ⟨[], [], [], 976⟩, F := flotsamlaw07_HeapKeeps_nno_l0 }
noncomputable def flotsamlaw07_HeapKeeps_nno_L1 : LoopSum := { hc := ⟨[], [1, 2, 3, 7, 8, 9, 10, 12, 13, 14, 16], [], [], [0, 320, 464, 640, 800], [192, 256, 736, 737], 992⟩, h := ⟨[(1, (.d cI)), (2, (.d cI)), (3, (.pvar 0 [])), (7, (.pvar 320 [])), (8, (.pvar 464 [])), (9, (.d .bool)), (10, (.pvar 640 [])), (12, (.d .bool)), (13, (.pvar 800 [])), (14, (.d .bool)), (16, (.d cI))], [(0, (.d cHeap)), (320, (.cons (.row 192) (.cons (.row 256) (.d (.cons .bool .nil))))), (464, (.cons .undef (.cons .undef (.cons .undef (.d .nil))))), (640, (.cons .undef (.cons .undef (.cons .undef (.d .nil))))), (800, (.cons (.row 736) (.cons (.row 737) (.d (.cons .bool .nil)))))], [(192, (.int .u64), true), (256, cSpan, true), (736, (.int .u64), true), (737, cSpan, true)], 992⟩, xid := 2, oc := ⟨[], [1, 2, 3, 8, 9, 10, 12, 13, 14], [], [], [0, 464, 640, 800], [736, 737], 992⟩, o := ⟨[(1, (.d cI)), (2, (.d cI)), (3, (.pvar 0 [])), (8, (.pvar 464 [])), (9, (.d .bool)), (10, (.pvar 640 [])), (12, (.d .bool)), (13, (.pvar 800 [])), (14, (.d .bool))], [(0, (.d cHeap)), (464, (.cons .undef (.cons .undef (.cons .undef (.d .nil))))), (640, (.cons .undef (.cons .undef (.cons .undef (.d .nil))))), (800, (.cons (.row 736) (.cons (.row 737) (.d (.cons .bool .nil)))))], [(736, (.int .u64), true), (737, cSpan, true)], 992⟩, rc := ⟨[], [], [], [], [], [], 992⟩, r := ⟨[], [], [], 992⟩, F := flotsamlaw07_HeapKeeps_nno_l1 }
noncomputable def flotsamlaw07_HeapKeeps_nno_S : List (Nat × Sum) := [(21, flotsamref07_Form_sm), (31, flotsamref07_Same_sm), (43, flotsamlaw07_awake_sm), (51, heap_Open_n_sm), (52, flotsamref07_Open_sm), (53, heap_Close_n_sm), (55, heap_Free_o_sm), (56, flotsamref07_Free_sm), (57, heap_Lay_n_sm), (58, flotsamref07_Lay_sm)]
noncomputable def flotsamlaw07_HeapKeeps_nno_fl : List (Nat × Func) := []
noncomputable def flotsamlaw07_HeapKeeps_nno_es : List AE := [⟨8, 13, 0, 0, flotsamlaw07_HeapKeeps_nno_L0⟩, ⟨8, 13, 0, 2, flotsamlaw07_HeapKeeps_nno_L1⟩]
theorem flotsamlaw07_HeapKeeps_nno_den0 : (fun x => denStep TEv (look1 flotsamlaw07_HeapKeeps_nno_S) (look1 flotsamlaw07_HeapKeeps_nno_fl) (annOf flotsamlaw07_HeapKeeps_nno_es) 8 13 Go.Proofs.Tryd.f13.ntmps 0 (cat (bodyOf Go.Proofs.Tryd.f13) [true, true, true, true, true, true, true, true, false, true, false, false]) flotsamlaw07_HeapKeeps_nno_L0 x) = flotsamlaw07_HeapKeeps_nno_s0 := by kernel_rfl
theorem flotsamlaw07_HeapKeeps_nno_den1 : (fun x => denStep TEv (look1 flotsamlaw07_HeapKeeps_nno_S) (look1 flotsamlaw07_HeapKeeps_nno_fl) (annOf flotsamlaw07_HeapKeeps_nno_es) 8 13 Go.Proofs.Tryd.f13.ntmps 0 (cat (bodyOf Go.Proofs.Tryd.f13) [true, true, true, true, true, true, true, true, true, false, true, false, false]) flotsamlaw07_HeapKeeps_nno_L1 x) = flotsamlaw07_HeapKeeps_nno_s1 := by kernel_rfl
theorem flotsamlaw07_HeapKeeps_nno_den : (fun x => denFun TEv (look1 flotsamlaw07_HeapKeeps_nno_S) (look1 flotsamlaw07_HeapKeeps_nno_fl) (annOf flotsamlaw07_HeapKeeps_nno_es) 8 13 Go.Proofs.Tryd.f13 flotsamlaw07_HeapKeeps_nno_sm.a flotsamlaw07_HeapKeeps_nno_sm.r x) = flotsamlaw07_HeapKeeps_nno_sm.F := by kernel_rfl
theorem flotsamlaw07_HeapKeeps_nno_ok0 : AEok Go.Proofs.Tryd.prog TEv (look1 flotsamlaw07_HeapKeeps_nno_S) (look1 flotsamlaw07_HeapKeeps_nno_fl) (annOf flotsamlaw07_HeapKeeps_nno_es) ⟨8, 13, 0, 0, flotsamlaw07_HeapKeeps_nno_L0⟩ := aeok_of 9223372036854775808 Go.Proofs.Tryd.func13 (by kernel_rfl) flotsamlaw07_HeapKeeps_nno_den0 (by kernel_rfl)
theorem flotsamlaw07_HeapKeeps_nno_ok1 : AEok Go.Proofs.Tryd.prog TEv (look1 flotsamlaw07_HeapKeeps_nno_S) (look1 flotsamlaw07_HeapKeeps_nno_fl) (annOf flotsamlaw07_HeapKeeps_nno_es) ⟨8, 13, 0, 2, flotsamlaw07_HeapKeeps_nno_L1⟩ := aeok_of 9223372036854775808 Go.Proofs.Tryd.func13 (by kernel_rfl) flotsamlaw07_HeapKeeps_nno_den1 (by kernel_rfl)
theorem flotsamlaw07_HeapKeeps_nno_sem : SemOf Go.Proofs.Tryd.prog 13 flotsamlaw07_HeapKeeps_nno_sm :=
  semMk teOk (sl := flotsamlaw07_HeapKeeps_nno_S) (all_cons flotsamref07_Form_sem (all_cons flotsamref07_Same_sem (all_cons flotsamlaw07_awake_sem (all_cons heap_Open_n_sem (all_cons flotsamref07_Open_sem (all_cons heap_Close_n_sem (all_cons heap_Free_o_sem (all_cons flotsamref07_Free_sem (all_cons heap_Lay_n_sem (all_cons flotsamref07_Lay_sem all_nil)))))))))) (fl := flotsamlaw07_HeapKeeps_nno_fl) (all_nil) (es := flotsamlaw07_HeapKeeps_nno_es) Go.Proofs.Tryd.func13 (by kernel_rfl) rfl (all_cons flotsamlaw07_HeapKeeps_nno_ok0 (all_cons flotsamlaw07_HeapKeeps_nno_ok1 (all_nil))) rfl flotsamlaw07_HeapKeeps_nno_den

/-! ### flotsam/flotsamlaw07.HeapKeeps -/
def flotsamlaw07_HeapKeeps_nnn_s0r (v1 : Int) (v2 : Int) (v9 : Bool) (v12 : Bool) (v14 : Bool) (v15 : Int) (c0 : Heap) (c320 : Bool × Unit) (c464 : Unit) (c640 : Unit) (c800 : Unit) (r192 : List Int) (r256 : List Span) : Option (SRes (.cons cI (.cons cI (.cons .bool (.cons .bool (.cons .bool (.cons cI (.cons cHeap (.cons (.cons .bool .nil) (.cons .nil (.cons .nil (.cons .nil (.cons (.sl (.int .u64)) (.cons (.sl cSpan) .nil))))))))))))) (.cons cI (.cons cI (.cons .bool (.cons .bool (.cons .bool (.cons cHeap (.cons (.cons .bool .nil) (.cons .nil (.cons .nil (.cons .nil (.cons (.sl (.int .u64)) (.cons (.sl cSpan) .nil)))))))))))) .nil) :=
  bif decide (v15 < (r192.length : Int)) then
    bif decide (0 ≤ v15) then
      bif decide (v15 < (r192.length : Int)) then
        some (.next (v1, v2, v9, v12, v14, wi64 (v15 + 1), c0, c320, c464, c640, c800, r192.set v15.toNat 77, r256, ()))
      else none
    else none
  else
  some (.fin (.out (v1, v2, v9, v12, v14, c0, c320, c464, c640, c800, r192, r256, ())))
def flotsamlaw07_HeapKeeps_nnn_s0 (x : Int × Int × Bool × Bool × Bool × Int × Heap × (Bool × Unit) × Unit × Unit × Unit × (List Int) × (List Span) × Unit) : Option (SRes (.cons cI (.cons cI (.cons .bool (.cons .bool (.cons .bool (.cons cI (.cons cHeap (.cons (.cons .bool .nil) (.cons .nil (.cons .nil (.cons .nil (.cons (.sl (.int .u64)) (.cons (.sl cSpan) .nil))))))))))))) (.cons cI (.cons cI (.cons .bool (.cons .bool (.cons .bool (.cons cHeap (.cons (.cons .bool .nil) (.cons .nil (.cons .nil (.cons .nil (.cons (.sl (.int .u64)) (.cons (.sl cSpan) .nil)))))))))))) .nil) := flotsamlaw07_HeapKeeps_nnn_s0r x.1 x.2.1 x.2.2.1 x.2.2.2.1 x.2.2.2.2.1 x.2.2.2.2.2.1 x.2.2.2.2.2.2.1 x.2.2.2.2.2.2.2.1 x.2.2.2.2.2.2.2.2.1 x.2.2.2.2.2.2.2.2.2.1 x.2.2.2.2.2.2.2.2.2.2.1 x.2.2.2.2.2.2.2.2.2.2.2.1 x.2.2.2.2.2.2.2.2.2.2.2.2.1
def flotsamlaw07_HeapKeeps_nnn_l0 (x : Int × Int × Bool × Bool × Bool × Int × Heap × (Bool × Unit) × Unit × Unit × Unit × (List Int) × (List Span) × Unit) : Option (LRes (.cons cI (.cons cI (.cons .bool (.cons .bool (.cons .bool (.cons cHeap (.cons (.cons .bool .nil) (.cons .nil (.cons .nil (.cons .nil (.cons (.sl (.int .u64)) (.cons (.sl cSpan) .nil)))))))))))) .nil) := iterL (h := (.cons cI (.cons cI (.cons .bool (.cons .bool (.cons .bool (.cons cI (.cons cHeap (.cons (.cons .bool .nil) (.cons .nil (.cons .nil (.cons .nil (.cons (.sl (.int .u64)) (.cons (.sl cSpan) .nil)))))))))))))) (o := (.cons cI (.cons cI (.cons .bool (.cons .bool (.cons .bool (.cons cHeap (.cons (.cons .bool .nil) (.cons .nil (.cons .nil (.cons .nil (.cons (.sl (.int .u64)) (.cons (.sl cSpan) .nil))))))))))))) (r := .nil) flotsamlaw07_HeapKeeps_nnn_s0 9223372036854775808 x
def flotsamlaw07_HeapKeeps_nnn_s1r (v1 : Int) (v2 : Int) (v9 : Bool) (v12 : Bool) (v14 : Bool) (v16 : Int) (c0 : Heap) (c320 : Bool × Unit) (c464 : Unit) (c640 : Unit) (c800 : Unit) (r192 : List Int) (r256 : List Span) : Option (SRes (.cons cI (.cons cI (.cons .bool (.cons .bool (.cons .bool (.cons cI (.cons cHeap (.cons (.cons .bool .nil) (.cons .nil (.cons .nil (.cons .nil (.cons (.sl (.int .u64)) (.cons (.sl cSpan) .nil))))))))))))) (.cons cI (.cons cI (.cons .bool (.cons .bool (.cons .bool (.cons cHeap (.cons .nil (.cons .nil (.cons .nil .nil))))))))) .nil) :=
  bif decide (v16 < (r256.length : Int)) then
    bif decide (0 ≤ v16) then
      bif decide (v16 < (r256.length : Int)) then
        some (.next (v1, v2, v9, v12, v14, wi64 (v16 + 1), c0, c320, c464, c640, c800, r192, r256.set v16.toNat (9, 0, 0, ()), ()))
      else none
    else none
  else
  some (.fin (.out (v1, v2, v9, v12, v14, c0, c464, c640, c800, ())))
def flotsamlaw07_HeapKeeps_nnn_s1 (x : Int × Int × Bool × Bool × Bool × Int × Heap × (Bool × Unit) × Unit × Unit × Unit × (List Int) × (List Span) × Unit) : Option (SRes (.cons cI (.cons cI (.cons .bool (.cons .bool (.cons .bool (.cons cI (.cons cHeap (.cons (.cons .bool .nil) (.cons .nil (.cons .nil (.cons .nil (.cons (.sl (.int .u64)) (.cons (.sl cSpan) .nil))))))))))))) (.cons cI (.cons cI (.cons .bool (.cons .bool (.cons .bool (.cons cHeap (.cons .nil (.cons .nil (.cons .nil .nil))))))))) .nil) := flotsamlaw07_HeapKeeps_nnn_s1r x.1 x.2.1 x.2.2.1 x.2.2.2.1 x.2.2.2.2.1 x.2.2.2.2.2.1 x.2.2.2.2.2.2.1 x.2.2.2.2.2.2.2.1 x.2.2.2.2.2.2.2.2.1 x.2.2.2.2.2.2.2.2.2.1 x.2.2.2.2.2.2.2.2.2.2.1 x.2.2.2.2.2.2.2.2.2.2.2.1 x.2.2.2.2.2.2.2.2.2.2.2.2.1
def flotsamlaw07_HeapKeeps_nnn_l1 (x : Int × Int × Bool × Bool × Bool × Int × Heap × (Bool × Unit) × Unit × Unit × Unit × (List Int) × (List Span) × Unit) : Option (LRes (.cons cI (.cons cI (.cons .bool (.cons .bool (.cons .bool (.cons cHeap (.cons .nil (.cons .nil (.cons .nil .nil))))))))) .nil) := iterL (h := (.cons cI (.cons cI (.cons .bool (.cons .bool (.cons .bool (.cons cI (.cons cHeap (.cons (.cons .bool .nil) (.cons .nil (.cons .nil (.cons .nil (.cons (.sl (.int .u64)) (.cons (.sl cSpan) .nil)))))))))))))) (o := (.cons cI (.cons cI (.cons .bool (.cons .bool (.cons .bool (.cons cHeap (.cons .nil (.cons .nil (.cons .nil .nil)))))))))) (r := .nil) flotsamlaw07_HeapKeeps_nnn_s1 9223372036854775808 x
def flotsamlaw07_HeapKeeps_nnn_r (a0 : Heap) (a1 : Int) (a2 : Int) : Option (Bool × Unit) :=
  (flotsamlaw07_awake ()).bind fun y1 =>
  bif !y1.1 then
    (flotsamlaw07_awake ()).bind fun y2 =>
    some (y2.1, ())
  else
  (flotsamref07_Form (a0, ())).bind fun y3 =>
  bif !y3.1 then
    (flotsamlaw07_awake ()).bind fun y4 =>
    some (y4.1, ())
  else
  bif decide ((0 + a0.1.length) * 8 ≤ 140737488355328) then
    bif decide ((0 + a0.2.1.length) * 24 ≤ 140737488355328) then
      (heap_Open_n ((a0.1, a0.2.1, a0.2.2.1, ()), a1, a2, ())).bind fun y5 =>
      (heap_Lay_n ((a0.1, a0.2.1, a0.2.2.1, ()), a1, a2, ())).bind fun y6 =>
      (heap_Free_n ((a0.1, a0.2.1, a0.2.2.1, ()), a1, ())).bind fun y7 =>
      (heap_Close_n ((a0.1, a0.2.1, a0.2.2.1, ()), a1, ())).bind fun y8 =>
      (flotsamref07_Same ((a0.1, a0.2.1, a0.2.2.1, ()), a0, ())).bind fun y9 =>
      bif !y9.1 then
        some (false, ())
      else
      (flotsamlaw07_HeapKeeps_nnn_l0 (a1, a2, y5.2.1, y6.2.2.1, y7.2.1, 0, a0, (a0.2.2.1, ()), (), (), (), a0.1, a0.2.1, ())).bind fun s10 => match s10 with
      | .out s10 =>
        (flotsamlaw07_HeapKeeps_nnn_l1 (s10.1, s10.2.1, s10.2.2.1, s10.2.2.2.1, s10.2.2.2.2.1, 0, s10.2.2.2.2.2.1, s10.2.2.2.2.2.2.1, s10.2.2.2.2.2.2.2.1, s10.2.2.2.2.2.2.2.2.1, s10.2.2.2.2.2.2.2.2.2.1, s10.2.2.2.2.2.2.2.2.2.2.1, s10.2.2.2.2.2.2.2.2.2.2.2.1, ())).bind fun s11 => match s11 with
        | .out s11 =>
          (flotsamref07_Open (s11.2.2.2.2.2.1, s11.1, s11.2.1, ())).bind fun y12 =>
          (flotsamref07_Lay (s11.2.2.2.2.2.1, s11.1, s11.2.1, ())).bind fun y13 =>
          (flotsamref07_Free (s11.2.2.2.2.2.1, s11.1, ())).bind fun y14 =>
          bif !s11.2.2.1 then
            bif !s11.2.2.2.1 then
              bif !s11.2.2.2.2.1 then
                some (true, ())
              else none
            else none
          else none
        | .ret s11 =>
          none
      | .ret s10 =>
        none
    else none
  else none
def flotsamlaw07_HeapKeeps_nnn (x : Heap × Val) : Option (Bool × Unit) := flotsamlaw07_HeapKeeps_nnn_r x.1 x.2.1 x.2.2.1
noncomputable def flotsamlaw07_HeapKeeps_nnn_sm : Sum := ⟨(.cons cHeap cVal), (.cons (.d .bool) .nil), flotsamlaw07_HeapKeeps_nnn⟩
noncomputable def flotsamlaw07_HeapKeeps_nnn_L0 : LoopSum := { hc := ⟨[], [1, 2, 3, 7, 8, 9, 10, 12, 13, 14, 15], [], [], [0, 320, 464, 640, 800], [192, 256], 976⟩, h := ⟨[(1, (.d cI)), (2, (.d cI)), (3, (.pvar 0 [])), (7, (.pvar 320 [])), (8, (.pvar 464 [])), (9, (.d .bool)), (10, (.pvar 640 [])), (12, (.d .bool)), (13, (.pvar 800 [])), (14, (.d .bool)), (15, (.d cI))], [(0, (.d cHeap)), (320, (.cons (.row 192) (.cons (.row 256) (.d (.cons .bool .nil))))), (464, (.cons .undef (.cons .undef (.cons .undef (.d .nil))))), (640, (.cons .undef (.cons .undef (.cons .undef (.d .nil))))), (800, (.cons .undef (.cons .undef (.cons .undef (.d .nil)))))], [(192, (.int .u64), true), (256, cSpan, true)], 976⟩, xid := 0, oc := ⟨[], [1, 2, 3, 7, 8, 9, 10, 12, 13, 14], [], [], [0, 320, 464, 640, 800], [192, 256], 976⟩, o := ⟨[(1, (.d cI)), (2, (.d cI)), (3, (.pvar 0 [])), (7, (.pvar 320 [])), (8, (.pvar 464 [])), (9, (.d .bool)), (10, (.pvar 640 [])), (12, (.d .bool)), (13, (.pvar 800 [])), (14, (.d .bool))], [(0, (.d cHeap)), (320, (.cons (.row 192) (.cons (.row 256) (.d (.cons .bool .nil))))), (464, (.cons .undef (.cons .undef (.cons .undef (.d .nil))))), (640, (.cons .undef (.cons .undef (.cons .undef (.d .nil))))), (800, (.cons .undef (.cons .undef (.cons .undef (.d .nil)))))], [(192, (.int .u64), true), (256, cSpan, true)], 976⟩, rc := ⟨[], [], [], [], [], [], 976⟩, r := ⟨[], [], [], 976⟩, F := flotsamlaw07_HeapKeeps_nnn_l0 }
noncomputable def flotsamlaw07_HeapKeeps_nnn_L1 : LoopSum := { hc := ⟨[], [1, 2, 3, 7, 8, 9, 10, 12, 13, 14, 16], [], [], [0, 320, 464, 640, 800], [192, 256], 992⟩, h := ⟨[(1, (.d cI)), (2, (.d cI)), (3, (.pvar 0 [])), (7, (.pvar 320 [])), (8, (.pvar 464 [])), (9, (.d .bool)), (10, (.pvar 640 [])), (12, (.d .bool)), (13, (.pvar 800 [])), (14, (.d .bool)), (16, (.d cI))], [(0, (.d cHeap)), (320, (.cons (.row 192) (.cons (.row 256) (.d (.cons .bool .nil))))), (464, (.cons .undef (.cons .undef (.cons .undef (.d .nil))))), (640, (.cons .undef (.cons .undef (.cons .undef (.d .nil))))), (800, (.cons .undef (.cons .undef (.cons .undef (.d .nil)))))], [(192, (.int .u64), true), (256, cSpan, true)], 992⟩, xid := 2, oc := ⟨[], [1, 2, 3, 8, 9, 10, 12, 13, 14], [], [], [0, 464, 640, 800], [], 992⟩, o := ⟨[(1, (.d cI)), (2, (.d cI)), (3, (.pvar 0 [])), (8, (.pvar 464 [])), (9, (.d .bool)), (10, (.pvar 640 [])), (12, (.d .bool)), (13, (.pvar 800 [])), (14, (.d .bool))], [(0, (.d cHeap)), (464, (.cons .undef (.cons .undef (.cons .undef (.d .nil))))), (640, (.cons .undef (.cons .undef (.cons .undef (.d .nil))))), (800, (.cons .undef (.cons .undef (.cons .undef (.d .nil)))))], [], 992⟩, rc := ⟨[], [], [], [], [], [], 992⟩, r := ⟨[], [], [], 992⟩, F := flotsamlaw07_HeapKeeps_nnn_l1 }
noncomputable def flotsamlaw07_HeapKeeps_nnn_S : List (Nat × Sum) := [(21, flotsamref07_Form_sm), (31, flotsamref07_Same_sm), (43, flotsamlaw07_awake_sm), (51, heap_Open_n_sm), (52, flotsamref07_Open_sm), (53, heap_Close_n_sm), (55, heap_Free_n_sm), (56, flotsamref07_Free_sm), (57, heap_Lay_n_sm), (58, flotsamref07_Lay_sm)]
noncomputable def flotsamlaw07_HeapKeeps_nnn_fl : List (Nat × Func) := []
noncomputable def flotsamlaw07_HeapKeeps_nnn_es : List AE := [⟨8, 13, 0, 0, flotsamlaw07_HeapKeeps_nnn_L0⟩, ⟨8, 13, 0, 2, flotsamlaw07_HeapKeeps_nnn_L1⟩]
theorem flotsamlaw07_HeapKeeps_nnn_den0 : (fun x => denStep TEv (look1 flotsamlaw07_HeapKeeps_nnn_S) (look1 flotsamlaw07_HeapKeeps_nnn_fl) (annOf flotsamlaw07_HeapKeeps_nnn_es) 8 13 Go.Proofs.Tryd.f13.ntmps 0 (cat (bodyOf Go.Proofs.Tryd.f13) [true, true, true, true, true, true, true, true, false, true, false, false]) flotsamlaw07_HeapKeeps_nnn_L0 x) = flotsamlaw07_HeapKeeps_nnn_s0 := by kernel_rfl
theorem flotsamlaw07_HeapKeeps_nnn_den1 : (fun x => denStep TEv (look1 flotsamlaw07_HeapKeeps_nnn_S) (look1 flotsamlaw07_HeapKeeps_nnn_fl) (annOf flotsamlaw07_HeapKeeps_nnn_es) 8 13 Go.Proofs.Tryd.f13.ntmps 0 (cat (bodyOf Go.Proofs.Tryd.f13) [true, true, true, true, true, true, true, true, true, false, true, false, false]) flotsamlaw07_HeapKeeps_nnn_L1 x) = flotsamlaw07_HeapKeeps_nnn_s1 := by kernel_rfl
theorem flotsamlaw07_HeapKeeps_nnn_den : (fun x => denFun TEv (look1 flotsamlaw07_HeapKeeps_nnn_S) (look1 flotsamlaw07_HeapKeeps_nnn_fl) (annOf flotsamlaw07_HeapKeeps_nnn_es) 8 13 Go.Proofs.Tryd.f13 flotsamlaw07_HeapKeeps_nnn_sm.a flotsamlaw07_HeapKeeps_nnn_sm.r x) = flotsamlaw07_HeapKeeps_nnn_sm.F := by kernel_rfl
theorem flotsamlaw07_HeapKeeps_nnn_ok0 : AEok Go.Proofs.Tryd.prog TEv (look1 flotsamlaw07_HeapKeeps_nnn_S) (look1 flotsamlaw07_HeapKeeps_nnn_fl) (annOf flotsamlaw07_HeapKeeps_nnn_es) ⟨8, 13, 0, 0, flotsamlaw07_HeapKeeps_nnn_L0⟩ := aeok_of 9223372036854775808 Go.Proofs.Tryd.func13 (by kernel_rfl) flotsamlaw07_HeapKeeps_nnn_den0 (by kernel_rfl)
theorem flotsamlaw07_HeapKeeps_nnn_ok1 : AEok Go.Proofs.Tryd.prog TEv (look1 flotsamlaw07_HeapKeeps_nnn_S) (look1 flotsamlaw07_HeapKeeps_nnn_fl) (annOf flotsamlaw07_HeapKeeps_nnn_es) ⟨8, 13, 0, 2, flotsamlaw07_HeapKeeps_nnn_L1⟩ := aeok_of 9223372036854775808 Go.Proofs.Tryd.func13 (by kernel_rfl) flotsamlaw07_HeapKeeps_nnn_den1 (by kernel_rfl)
theorem flotsamlaw07_HeapKeeps_nnn_sem : SemOf Go.Proofs.Tryd.prog 13 flotsamlaw07_HeapKeeps_nnn_sm :=
  semMk teOk (sl := flotsamlaw07_HeapKeeps_nnn_S) (all_cons flotsamref07_Form_sem (all_cons flotsamref07_Same_sem (all_cons flotsamlaw07_awake_sem (all_cons heap_Open_n_sem (all_cons flotsamref07_Open_sem (all_cons heap_Close_n_sem (all_cons heap_Free_n_sem (all_cons flotsamref07_Free_sem (all_cons heap_Lay_n_sem (all_cons flotsamref07_Lay_sem all_nil)))))))))) (fl := flotsamlaw07_HeapKeeps_nnn_fl) (all_nil) (es := flotsamlaw07_HeapKeeps_nnn_es) Go.Proofs.Tryd.func13 (by kernel_rfl) rfl (all_cons flotsamlaw07_HeapKeeps_nnn_ok0 (all_cons flotsamlaw07_HeapKeeps_nnn_ok1 (all_nil))) rfl flotsamlaw07_HeapKeeps_nnn_den

def flotsamlaw07_HeapKeeps : (Heap × Val) → Option (Bool × Unit) := anyTrue [flotsamlaw07_HeapKeeps_ooo, flotsamlaw07_HeapKeeps_oon, flotsamlaw07_HeapKeeps_ono, flotsamlaw07_HeapKeeps_onn, flotsamlaw07_HeapKeeps_noo, flotsamlaw07_HeapKeeps_non, flotsamlaw07_HeapKeeps_nno, flotsamlaw07_HeapKeeps_nnn]
noncomputable def flotsamlaw07_HeapKeeps_sm : Sum := ⟨(.cons cHeap cVal), (.cons (.d .bool) .nil), flotsamlaw07_HeapKeeps⟩
theorem flotsamlaw07_HeapKeeps_sem : SemOf Go.Proofs.Tryd.prog 13 flotsamlaw07_HeapKeeps_sm := semAny (a := (.cons cHeap cVal)) flotsamlaw07_HeapKeeps_ooo_sem (l := [flotsamlaw07_HeapKeeps_ooo, flotsamlaw07_HeapKeeps_oon, flotsamlaw07_HeapKeeps_ono, flotsamlaw07_HeapKeeps_onn, flotsamlaw07_HeapKeeps_noo, flotsamlaw07_HeapKeeps_non, flotsamlaw07_HeapKeeps_nno, flotsamlaw07_HeapKeeps_nnn]) (all_cons flotsamlaw07_HeapKeeps_ooo_sem (all_cons flotsamlaw07_HeapKeeps_oon_sem (all_cons flotsamlaw07_HeapKeeps_ono_sem (all_cons flotsamlaw07_HeapKeeps_onn_sem (all_cons flotsamlaw07_HeapKeeps_noo_sem (all_cons flotsamlaw07_HeapKeeps_non_sem (all_cons flotsamlaw07_HeapKeeps_nno_sem (all_cons flotsamlaw07_HeapKeeps_nnn_sem (all_nil)))))))))
end Go.Proofs.YtdfhopakojmjkaaDoor.Dfk
