/- What functions come to. Printed by a program of this session. -/
import Derived.Test.YtdfhopakojmjkaaDoorDfnF3
namespace Go.Proofs.YtdfhopakojmjkaaDoor.Dfn
open Go
set_option maxRecDepth 100000
set_option linter.unusedVariables false
/-! ### flotsam/flotsamlaw07.HeapApart -/
def flotsamlaw07_HeapApart_s0r (v1 : List (Int × Val)) (v5 : Int) (v10 : Int) (v16 : Bool) (v19 : Int) (c288 : Heap) (c514 : Int × Val) (r384 : List Int) (r385 : List Int) (r946 : List Int) (r947 : List Int) : Option (SRes (.cons (.sl (.cons cI cVal)) (.cons cI (.cons cI (.cons .bool (.cons cI (.cons cHeap (.cons (.cons cI cVal) (.cons (.sl cI) (.cons (.sl cI) (.cons (.sl cI) (.cons (.sl cI) .nil))))))))))) (.cons (.sl (.cons cI cVal)) (.cons cI (.cons cI (.cons .bool (.cons cHeap (.cons (.sl cI) (.cons (.sl cI) (.cons (.sl cI) .nil)))))))) .nil) :=
  bif decide (v19 < (r384.length : Int)) then
    bif decide (0 ≤ v19) then
      bif decide (v19 < (r384.length : Int)) then
        bif (r384.getD v19.toNat 0) != c514.2.1 then
          bif decide (0 ≤ v19) then
            bif decide (v19 < (r384.length : Int)) then
              bif decide ((r946.length + 1) * 8 ≤ 140737488355328) then
                bif decide (0 ≤ v19) then
                  bif decide (v19 < (r385.length : Int)) then
                    bif decide ((r947.length + 1) * 8 ≤ 140737488355328) then
                      some (.next (v1, v5, v10, v16, wi64 (v19 + 1), c288, c514, r384, r385, r946 ++ [r384.getD v19.toNat 0], r947 ++ [r385.getD v19.toNat 0], ()))
                    else none
                  else none
                else none
              else none
            else none
          else none
        else
        some (.next (v1, v5, v10, v16, wi64 (v19 + 1), c288, c514, r384, r385, r946, r947, ()))
      else none
    else none
  else
  some (.fin (.out (v1, v5, v10, v16, c288, r384, r946, r947, ())))
def flotsamlaw07_HeapApart_s0 (x : (List (Int × Val)) × Int × Int × Bool × Int × Heap × (Int × Val) × (List Int) × (List Int) × (List Int) × (List Int) × Unit) : Option (SRes (.cons (.sl (.cons cI cVal)) (.cons cI (.cons cI (.cons .bool (.cons cI (.cons cHeap (.cons (.cons cI cVal) (.cons (.sl cI) (.cons (.sl cI) (.cons (.sl cI) (.cons (.sl cI) .nil))))))))))) (.cons (.sl (.cons cI cVal)) (.cons cI (.cons cI (.cons .bool (.cons cHeap (.cons (.sl cI) (.cons (.sl cI) (.cons (.sl cI) .nil)))))))) .nil) := flotsamlaw07_HeapApart_s0r x.1 x.2.1 x.2.2.1 x.2.2.2.1 x.2.2.2.2.1 x.2.2.2.2.2.1 x.2.2.2.2.2.2.1 x.2.2.2.2.2.2.2.1 x.2.2.2.2.2.2.2.2.1 x.2.2.2.2.2.2.2.2.2.1 x.2.2.2.2.2.2.2.2.2.2.1
def flotsamlaw07_HeapApart_l0 (x : (List (Int × Val)) × Int × Int × Bool × Int × Heap × (Int × Val) × (List Int) × (List Int) × (List Int) × (List Int) × Unit) : Option (LRes (.cons (.sl (.cons cI cVal)) (.cons cI (.cons cI (.cons .bool (.cons cHeap (.cons (.sl cI) (.cons (.sl cI) (.cons (.sl cI) .nil)))))))) .nil) := iterL (h := (.cons (.sl (.cons cI cVal)) (.cons cI (.cons cI (.cons .bool (.cons cI (.cons cHeap (.cons (.cons cI cVal) (.cons (.sl cI) (.cons (.sl cI) (.cons (.sl cI) (.cons (.sl cI) .nil)))))))))))) (o := (.cons (.sl (.cons cI cVal)) (.cons cI (.cons cI (.cons .bool (.cons cHeap (.cons (.sl cI) (.cons (.sl cI) (.cons (.sl cI) .nil))))))))) (r := .nil) flotsamlaw07_HeapApart_s0 9223372036854775808 x
def flotsamlaw07_HeapApart_s1r (v1 : List (Int × Val)) (v5 : Int) (v10 : Int) (c288 : Heap) (r384 : List Int) (r385 : List Int) : Option (SRes (.cons (.sl (.cons cI cVal)) (.cons cI (.cons cI (.cons cHeap (.cons (.sl cI) (.cons (.sl cI) .nil)))))) (.cons cI (.cons cHeap (.cons (.sl cI) (.cons (.sl cI) .nil)))) (.cons .bool .nil)) :=
  bif decide (v10 < (v1.length : Int)) then
    bif decide (0 ≤ v10) then
      bif decide (v10 < (v1.length : Int)) then
        bif (v1.getD v10.toNat (0, 0, 0, ())).1 == 0 then
          (heap_Open (c288, (v1.getD v10.toNat (0, 0, 0, ())).2.1, (v1.getD v10.toNat (0, 0, 0, ())).2.2.1, ())).bind fun y5 =>
          (heap_Form (y5.1, ())).bind fun y6 =>
          bif !y6.1 then
            some (.fin (.ret (false, ())))
          else
          some (.next (v1, v5, wi64 (v10 + 1), y5.1, r384, r385, ()))
        else
        bif (v1.getD v10.toNat (0, 0, 0, ())).1 == 1 then
          (heap_Lay (c288, (v1.getD v10.toNat (0, 0, 0, ())).2.1, (v1.getD v10.toNat (0, 0, 0, ())).2.2.1, ())).bind fun y7 =>
          bif y7.2.2.1 then
            bif decide ((r384.length + 1) * 8 ≤ 140737488355328) then
              bif decide (0 ≤ (v1.getD v10.toNat (0, 0, 0, ())).2.1) then
                bif decide ((v1.getD v10.toNat (0, 0, 0, ())).2.1 < (y7.1.2.1.length : Int)) then
                  bif decide ((wu64 (y7.1.2.1.getD (v1.getD v10.toNat (0, 0, 0, ())).2.1.toNat (0, 0, 0, ())).2.1) < 0) then none else
                  bif decide ((r385.length + 1) * 8 ≤ 140737488355328) then
                    (heap_Form (y7.1, ())).bind fun y8 =>
                    bif !y8.1 then
                      some (.fin (.ret (false, ())))
                    else
                    some (.next (v1, v5, wi64 (v10 + 1), y7.1, r384 ++ [y7.2.1], r385 ++ [shiftI true .i64 2 (wu64 (y7.1.2.1.getD (v1.getD v10.toNat (0, 0, 0, ())).2.1.toNat (0, 0, 0, ())).2.1)], ()))
                  else none
                else none
              else none
            else none
          else
          (heap_Form (y7.1, ())).bind fun y9 =>
          bif !y9.1 then
            some (.fin (.ret (false, ())))
          else
          some (.next (v1, v5, wi64 (v10 + 1), y7.1, r384, r385, ()))
        else
        bif (v1.getD v10.toNat (0, 0, 0, ())).1 == 2 then
          (heap_Lay (c288, (v1.getD v10.toNat (0, 0, 0, ())).2.1, (v1.getD v10.toNat (0, 0, 0, ())).2.2.1, ())).bind fun y10 =>
          bif y10.2.2.1 then
            bif decide ((r384.length + 1) * 8 ≤ 140737488355328) then
              bif decide (0 ≤ (v1.getD v10.toNat (0, 0, 0, ())).2.1) then
                bif decide ((v1.getD v10.toNat (0, 0, 0, ())).2.1 < (y10.1.2.1.length : Int)) then
                  bif decide ((wu64 (y10.1.2.1.getD (v1.getD v10.toNat (0, 0, 0, ())).2.1.toNat (0, 0, 0, ())).2.1) < 0) then none else
                  bif decide ((r385.length + 1) * 8 ≤ 140737488355328) then
                    (heap_Form (y10.1, ())).bind fun y11 =>
                    bif !y11.1 then
                      some (.fin (.ret (false, ())))
                    else
                    some (.next (v1, v5, wi64 (v10 + 1), y10.1, r384 ++ [y10.2.1], r385 ++ [shiftI true .i64 2 (wu64 (y10.1.2.1.getD (v1.getD v10.toNat (0, 0, 0, ())).2.1.toNat (0, 0, 0, ())).2.1)], ()))
                  else none
                else none
              else none
            else none
          else
          (heap_Form (y10.1, ())).bind fun y12 =>
          bif !y12.1 then
            some (.fin (.ret (false, ())))
          else
          some (.next (v1, v5, wi64 (v10 + 1), y10.1, r384, r385, ()))
        else
        bif (v1.getD v10.toNat (0, 0, 0, ())).1 == 3 then
          (heap_Free (c288, (v1.getD v10.toNat (0, 0, 0, ())).2.1, ())).bind fun y13 =>
          (flotsamlaw07_HeapApart_l0 (v1, v5, v10, y13.2.1, 0, y13.1, v1.getD v10.toNat (0, 0, 0, ()), r384, r385, [], [], ())).bind fun s14 => match s14 with
          | .out s14 =>
            bif !(s14.2.2.2.1 == (decide ((s14.2.2.2.2.2.2.1.length : Int) < (s14.2.2.2.2.2.1.length : Int)))) then
              some (.fin (.ret (false, ())))
            else
            (heap_Form (s14.2.2.2.2.1, ())).bind fun y15 =>
            bif !y15.1 then
              some (.fin (.ret (false, ())))
            else
            some (.next (s14.1, s14.2.1, wi64 (s14.2.2.1 + 1), s14.2.2.2.2.1, s14.2.2.2.2.2.2.1, s14.2.2.2.2.2.2.2.1, ()))
          | .ret s14 =>
            none
        else
        bif (v1.getD v10.toNat (0, 0, 0, ())).1 == 4 then
          (heap_Close (c288, (v1.getD v10.toNat (0, 0, 0, ())).2.1, ())).bind fun y16 =>
          (heap_Form (y16.1, ())).bind fun y17 =>
          bif !y17.1 then
            some (.fin (.ret (false, ())))
          else
          some (.next (v1, v5, wi64 (v10 + 1), y16.1, r384, r385, ()))
        else
        (heap_Form (c288, ())).bind fun y18 =>
        bif !y18.1 then
          some (.fin (.ret (false, ())))
        else
        some (.next (v1, v5, wi64 (v10 + 1), c288, r384, r385, ()))
      else none
    else none
  else
  some (.fin (.out (v5, c288, r384, r385, ())))
def flotsamlaw07_HeapApart_s1 (x : (List (Int × Val)) × Int × Int × Heap × (List Int) × (List Int) × Unit) : Option (SRes (.cons (.sl (.cons cI cVal)) (.cons cI (.cons cI (.cons cHeap (.cons (.sl cI) (.cons (.sl cI) .nil)))))) (.cons cI (.cons cHeap (.cons (.sl cI) (.cons (.sl cI) .nil)))) (.cons .bool .nil)) := flotsamlaw07_HeapApart_s1r x.1 x.2.1 x.2.2.1 x.2.2.2.1 x.2.2.2.2.1 x.2.2.2.2.2.1
def flotsamlaw07_HeapApart_l1 (x : (List (Int × Val)) × Int × Int × Heap × (List Int) × (List Int) × Unit) : Option (LRes (.cons cI (.cons cHeap (.cons (.sl cI) (.cons (.sl cI) .nil)))) (.cons .bool .nil)) := iterL (h := (.cons (.sl (.cons cI cVal)) (.cons cI (.cons cI (.cons cHeap (.cons (.sl cI) (.cons (.sl cI) .nil))))))) (o := (.cons cI (.cons cHeap (.cons (.sl cI) (.cons (.sl cI) .nil))))) (r := (.cons .bool .nil)) flotsamlaw07_HeapApart_s1 9223372036854775808 x
def flotsamlaw07_HeapApart_s2r (v21 : Int) (v22 : Int) (v23 : Int) (c288 : Heap) (r384 : List Int) (r385 : List Int) (r418 : List Int) : Option (SRes (.cons cI (.cons cI (.cons cI (.cons cHeap (.cons (.sl cI) (.cons (.sl cI) (.cons (.sl cI) .nil))))))) (.cons cI (.cons cI (.cons cHeap (.cons (.sl cI) (.cons (.sl cI) (.cons (.sl cI) .nil)))))) (.cons .bool .nil)) :=
  bif decide (0 ≤ v22) then
    bif decide (v22 < (r385.length : Int)) then
      bif decide (v23 < (r385.getD v22.toNat 0)) then
        bif decide (0 ≤ v22) then
          bif decide (v22 < (r384.length : Int)) then
            bif decide ((wi64 ((r384.getD v22.toNat 0) + v23)) ≥ (r418.length : Int)) then
              some (.fin (.ret (false, ())))
            else
            bif decide (0 ≤ v22) then
              bif decide (v22 < (r384.length : Int)) then
                bif decide (0 ≤ (wi64 ((r384.getD v22.toNat 0) + v23))) then
                  bif decide ((wi64 ((r384.getD v22.toNat 0) + v23)) < (r418.length : Int)) then
                    bif (r418.getD (wi64 ((r384.getD v22.toNat 0) + v23)).toNat 0) != 0 then
                      some (.fin (.ret (false, ())))
                    else
                    bif decide (v23 > 0) then
                      bif decide (0 ≤ v22) then
                        bif decide (v22 < (r384.length : Int)) then
                          bif decide (0 ≤ (wi64 ((r384.getD v22.toNat 0) + v23))) then
                            bif decide ((wi64 ((r384.getD v22.toNat 0) + v23)) < (c288.1.length : Int)) then
                              bif (c288.1.getD (wi64 ((r384.getD v22.toNat 0) + v23)).toNat 0) != 0 then
                                some (.fin (.ret (false, ())))
                              else
                              bif decide (0 ≤ v22) then
                                bif decide (v22 < (r384.length : Int)) then
                                  bif decide (0 ≤ (wi64 ((r384.getD v22.toNat 0) + v23))) then
                                    bif decide ((wi64 ((r384.getD v22.toNat 0) + v23)) < (r418.length : Int)) then
                                      some (.next (v21, v22, wi64 (v23 + 1), c288, r384, r385, r418.set (wi64 ((r384.getD v22.toNat 0) + v23)).toNat 1, ()))
                                    else none
                                  else none
                                else none
                              else none
                            else none
                          else none
                        else none
                      else none
                    else
                    bif decide (0 ≤ v22) then
                      bif decide (v22 < (r384.length : Int)) then
                        bif decide (0 ≤ (wi64 ((r384.getD v22.toNat 0) + v23))) then
                          bif decide ((wi64 ((r384.getD v22.toNat 0) + v23)) < (r418.length : Int)) then
                            some (.next (v21, v22, wi64 (v23 + 1), c288, r384, r385, r418.set (wi64 ((r384.getD v22.toNat 0) + v23)).toNat 1, ()))
                          else none
                        else none
                      else none
                    else none
                  else none
                else none
              else none
            else none
          else none
        else none
      else
      some (.fin (.out (v21, v22, c288, r384, r385, r418, ())))
    else none
  else none
def flotsamlaw07_HeapApart_s2 (x : Int × Int × Int × Heap × (List Int) × (List Int) × (List Int) × Unit) : Option (SRes (.cons cI (.cons cI (.cons cI (.cons cHeap (.cons (.sl cI) (.cons (.sl cI) (.cons (.sl cI) .nil))))))) (.cons cI (.cons cI (.cons cHeap (.cons (.sl cI) (.cons (.sl cI) (.cons (.sl cI) .nil)))))) (.cons .bool .nil)) := flotsamlaw07_HeapApart_s2r x.1 x.2.1 x.2.2.1 x.2.2.2.1 x.2.2.2.2.1 x.2.2.2.2.2.1 x.2.2.2.2.2.2.1
def flotsamlaw07_HeapApart_l2 (x : Int × Int × Int × Heap × (List Int) × (List Int) × (List Int) × Unit) : Option (LRes (.cons cI (.cons cI (.cons cHeap (.cons (.sl cI) (.cons (.sl cI) (.cons (.sl cI) .nil)))))) (.cons .bool .nil)) := iterL (h := (.cons cI (.cons cI (.cons cI (.cons cHeap (.cons (.sl cI) (.cons (.sl cI) (.cons (.sl cI) .nil)))))))) (o := (.cons cI (.cons cI (.cons cHeap (.cons (.sl cI) (.cons (.sl cI) (.cons (.sl cI) .nil))))))) (r := (.cons .bool .nil)) flotsamlaw07_HeapApart_s2 9223372036854775808 x
def flotsamlaw07_HeapApart_s3r (v21 : Int) (v22 : Int) (c288 : Heap) (r384 : List Int) (r385 : List Int) (r418 : List Int) : Option (SRes (.cons cI (.cons cI (.cons cHeap (.cons (.sl cI) (.cons (.sl cI) (.cons (.sl cI) .nil)))))) (.cons cI (.cons cHeap (.cons (.sl cI) .nil))) (.cons .bool .nil)) :=
  bif decide (v22 < (r384.length : Int)) then
    bif decide (0 ≤ v22) then
      bif decide (v22 < (r385.length : Int)) then
        (flotsamlaw07_HeapApart_l2 (wi64 (v21 + (r385.getD v22.toNat 0)), v22, 0, c288, r384, r385, r418, ())).bind fun s20 => match s20 with
        | .out s20 =>
          bif decide (0 ≤ s20.2.1) then
            bif decide (s20.2.1 < (s20.2.2.2.1.length : Int)) then
              bif decide (0 ≤ (s20.2.2.2.1.getD s20.2.1.toNat 0)) then
                bif decide ((s20.2.2.2.1.getD s20.2.1.toNat 0) < (s20.2.2.1.1.length : Int)) then
                  (flotsamref02_Get (s20.2.2.1.1.getD (s20.2.2.2.1.getD s20.2.1.toNat 0).toNat 0, ())).bind fun y21 =>
                  bif !y21.2.1 then
                    some (.fin (.ret (false, ())))
                  else
                  bif !y21.1.1 then
                    some (.fin (.ret (false, ())))
                  else
                  bif decide ((wu64 y21.1.2.2.1) < 0) then none else
                  bif decide (0 ≤ s20.2.1) then
                    bif decide (s20.2.1 < (s20.2.2.2.2.1.length : Int)) then
                      bif (shiftI true .i64 2 (wu64 y21.1.2.2.1)) != (s20.2.2.2.2.1.getD s20.2.1.toNat 0) then
                        some (.fin (.ret (false, ())))
                      else
                      some (.next (s20.1, wi64 (s20.2.1 + 1), s20.2.2.1, s20.2.2.2.1, s20.2.2.2.2.1, s20.2.2.2.2.2.1, ()))
                    else none
                  else none
                else none
              else none
            else none
          else none
        | .ret s20 =>
          some (.fin (.ret (s20.1, ())))
      else none
    else none
  else
  some (.fin (.out (v21, c288, r418, ())))
def flotsamlaw07_HeapApart_s3 (x : Int × Int × Heap × (List Int) × (List Int) × (List Int) × Unit) : Option (SRes (.cons cI (.cons cI (.cons cHeap (.cons (.sl cI) (.cons (.sl cI) (.cons (.sl cI) .nil)))))) (.cons cI (.cons cHeap (.cons (.sl cI) .nil))) (.cons .bool .nil)) := flotsamlaw07_HeapApart_s3r x.1 x.2.1 x.2.2.1 x.2.2.2.1 x.2.2.2.2.1 x.2.2.2.2.2.1
def flotsamlaw07_HeapApart_l3 (x : Int × Int × Heap × (List Int) × (List Int) × (List Int) × Unit) : Option (LRes (.cons cI (.cons cHeap (.cons (.sl cI) .nil))) (.cons .bool .nil)) := iterL (h := (.cons cI (.cons cI (.cons cHeap (.cons (.sl cI) (.cons (.sl cI) (.cons (.sl cI) .nil))))))) (o := (.cons cI (.cons cHeap (.cons (.sl cI) .nil)))) (r := (.cons .bool .nil)) flotsamlaw07_HeapApart_s3 9223372036854775808 x
def flotsamlaw07_HeapApart_s4r (v21 : Int) (v26 : Int) (c288 : Heap) (r418 : List Int) : Option (SRes (.cons cI (.cons cI (.cons cHeap (.cons (.sl cI) .nil)))) (.cons cI (.cons cHeap .nil)) (.cons .bool .nil)) :=
  bif decide (v26 < (r418.length : Int)) then
    bif decide (0 ≤ v26) then
      bif decide (v26 < (r418.length : Int)) then
        bif (r418.getD v26.toNat 0) == 0 then
          bif decide (0 ≤ v26) then
            bif decide (v26 < (c288.1.length : Int)) then
              bif (c288.1.getD v26.toNat 0) != 0 then
                some (.fin (.ret (false, ())))
              else
              some (.next (v21, wi64 (v26 + 1), c288, r418, ()))
            else none
          else none
        else
        some (.next (v21, wi64 (v26 + 1), c288, r418, ()))
      else none
    else none
  else
  some (.fin (.out (v21, c288, ())))
def flotsamlaw07_HeapApart_s4 (x : Int × Int × Heap × (List Int) × Unit) : Option (SRes (.cons cI (.cons cI (.cons cHeap (.cons (.sl cI) .nil)))) (.cons cI (.cons cHeap .nil)) (.cons .bool .nil)) := flotsamlaw07_HeapApart_s4r x.1 x.2.1 x.2.2.1 x.2.2.2.1
def flotsamlaw07_HeapApart_l4 (x : Int × Int × Heap × (List Int) × Unit) : Option (LRes (.cons cI (.cons cHeap .nil)) (.cons .bool .nil)) := iterL (h := (.cons cI (.cons cI (.cons cHeap (.cons (.sl cI) .nil))))) (o := (.cons cI (.cons cHeap .nil))) (r := (.cons .bool .nil)) flotsamlaw07_HeapApart_s4 9223372036854775808 x
def flotsamlaw07_HeapApart_r (a0 : Int) (a1 : List (Int × Val)) : Option (Bool × Unit) :=
  (flotsamlaw07_awake ()).bind fun y1 =>
  bif !y1.1 then
    (flotsamlaw07_awake ()).bind fun y2 =>
    some (y2.1, ())
  else
  bif decide ((a1.length : Int) > 100) then
    (flotsamlaw07_awake ()).bind fun y3 =>
    some (y3.1, ())
  else
  (heap_New (wi64 (1 + ((wi64 a0).tmod 16)), ())).bind fun y4 =>
  (flotsamlaw07_HeapApart_l1 (a1, wi64 (1 + ((wi64 a0).tmod 16)), 0, (y4.1.1, y4.1.2.1, y4.1.2.2.1, ()), [], [], ())).bind fun s19 => match s19 with
  | .out s19 =>
    bif (wi64 (32 * s19.1)) == (wi64 (32 * s19.1)) then
      bif decide (0 ≤ (wi64 (32 * s19.1))) then
        bif decide ((wi64 (32 * s19.1)).toNat * 8 ≤ 140737488355328) then
          (flotsamlaw07_HeapApart_l3 (0, 0, s19.2.1, s19.2.2.1, s19.2.2.2.1, List.replicate (wi64 (32 * s19.1)).toNat 0, ())).bind fun s22 => match s22 with
          | .out s22 =>
            (flotsamlaw07_HeapApart_l4 (s22.1, 0, s22.2.1, s22.2.2.1, ())).bind fun s23 => match s23 with
            | .out s23 =>
              (heap_Used (s23.2.1, ())).bind fun y24 =>
              some (y24.1 == s23.1, ())
            | .ret s23 =>
              some (s23.1, ())
          | .ret s22 =>
            some (s22.1, ())
        else none
      else none
    else none
  | .ret s19 =>
    some (s19.1, ())
def flotsamlaw07_HeapApart (x : Int × (List (Int × Val)) × Unit) : Option (Bool × Unit) := flotsamlaw07_HeapApart_r x.1 x.2.1
noncomputable def flotsamlaw07_HeapApart_sm : Sum := ⟨(.cons (.int .u8) (.cons (.sl (.cons cI cVal)) .nil)), (.cons (.d .bool) .nil), flotsamlaw07_HeapApart⟩
noncomputable def flotsamlaw07_HeapApart_L0 : LoopSum := { hc := ⟨[], [1, 5, 6, 8, 9, 10, 11, 16, 17, 18, 19], [(.tmp 17, cI), (.tmp 18, cI)], [], [288, 514], [384, 385], 946⟩, h := ⟨[(1, (.d (.sl (.cons cI cVal)))), (5, (.d cI)), (6, (.pvar 288 [])), (8, (.row 384)), (9, (.row 385)), (10, (.d cI)), (11, (.pvar 514 [])), (16, (.d .bool)), (17, (.row 946)), (18, (.row 947)), (19, (.d cI))], [(288, (.d cHeap)), (514, (.d (.cons cI cVal)))], [(384, cI, true), (385, cI, true), (946, cI, true), (947, cI, true)], 948⟩, xid := 3, oc := ⟨[], [1, 5, 6, 8, 10, 16, 17, 18], [(.tmp 17, cI), (.tmp 18, cI)], [], [288], [384], 946⟩, o := ⟨[(1, (.d (.sl (.cons cI cVal)))), (5, (.d cI)), (6, (.pvar 288 [])), (8, (.row 384)), (10, (.d cI)), (16, (.d .bool)), (17, (.row 946)), (18, (.row 947))], [(288, (.d cHeap))], [(384, cI, true), (946, cI, true), (947, cI, true)], 948⟩, rc := ⟨[], [], [], [], [], [], 946⟩, r := ⟨[], [], [], 946⟩, F := flotsamlaw07_HeapApart_l0 }
noncomputable def flotsamlaw07_HeapApart_L1 : LoopSum := { hc := ⟨[(.key 288 [], cHeap)], [1, 5, 6, 8, 9, 10], [(.tmp 8, cI), (.tmp 9, cI)], [], [288], [], 384⟩, h := ⟨[(1, (.d (.sl (.cons cI cVal)))), (5, (.d cI)), (6, (.pvar 288 [])), (8, (.row 384)), (9, (.row 385)), (10, (.d cI))], [(288, (.d cHeap))], [(384, cI, true), (385, cI, true)], 386⟩, xid := 0, oc := ⟨[], [5, 6, 8, 9], [(.tmp 8, cI), (.tmp 9, cI)], [], [288], [], 384⟩, o := ⟨[(5, (.d cI)), (6, (.pvar 288 [])), (8, (.row 384)), (9, (.row 385))], [(288, (.d cHeap))], [(384, cI, true), (385, cI, true)], 386⟩, rc := ⟨[], [4], [], [], [], [], 384⟩, r := ⟨[(4, (.d .bool))], [], [], 384⟩, F := flotsamlaw07_HeapApart_l1 }
noncomputable def flotsamlaw07_HeapApart_L2 : LoopSum := { hc := ⟨[], [6, 8, 9, 20, 21, 22, 23], [], [], [288], [384, 385, 418], 674⟩, h := ⟨[(6, (.pvar 288 [])), (8, (.row 384)), (9, (.row 385)), (20, (.row 418)), (21, (.d cI)), (22, (.d cI)), (23, (.d cI))], [(288, (.d cHeap))], [(384, cI, true), (385, cI, true), (418, cI, true)], 674⟩, xid := 7, oc := ⟨[], [6, 8, 9, 20, 21, 22], [], [], [288], [384, 385, 418], 674⟩, o := ⟨[(6, (.pvar 288 [])), (8, (.row 384)), (9, (.row 385)), (20, (.row 418)), (21, (.d cI)), (22, (.d cI))], [(288, (.d cHeap))], [(384, cI, true), (385, cI, true), (418, cI, true)], 674⟩, rc := ⟨[], [4], [], [], [], [], 674⟩, r := ⟨[(4, (.d .bool))], [], [], 674⟩, F := flotsamlaw07_HeapApart_l2 }
noncomputable def flotsamlaw07_HeapApart_L3 : LoopSum := { hc := ⟨[], [6, 8, 9, 20, 21, 22], [], [], [288], [384, 385, 418], 482⟩, h := ⟨[(6, (.pvar 288 [])), (8, (.row 384)), (9, (.row 385)), (20, (.row 418)), (21, (.d cI)), (22, (.d cI))], [(288, (.d cHeap))], [(384, cI, true), (385, cI, true), (418, cI, true)], 482⟩, xid := 5, oc := ⟨[], [6, 20, 21], [], [], [288], [418], 482⟩, o := ⟨[(6, (.pvar 288 [])), (20, (.row 418)), (21, (.d cI))], [(288, (.d cHeap))], [(418, cI, true)], 482⟩, rc := ⟨[], [4], [], [], [], [], 482⟩, r := ⟨[(4, (.d .bool))], [], [], 482⟩, F := flotsamlaw07_HeapApart_l3 }
noncomputable def flotsamlaw07_HeapApart_L4 : LoopSum := { hc := ⟨[], [6, 20, 21, 26], [], [], [288], [418], 498⟩, h := ⟨[(6, (.pvar 288 [])), (20, (.row 418)), (21, (.d cI)), (26, (.d cI))], [(288, (.d cHeap))], [(418, cI, true)], 498⟩, xid := 9, oc := ⟨[], [6, 21], [], [], [288], [], 498⟩, o := ⟨[(6, (.pvar 288 [])), (21, (.d cI))], [(288, (.d cHeap))], [], 498⟩, rc := ⟨[], [4], [], [], [], [], 498⟩, r := ⟨[(4, (.d .bool))], [], [], 498⟩, F := flotsamlaw07_HeapApart_l4 }
noncomputable def flotsamlaw07_HeapApart_S : List (Nat × Sum) := [(43, flotsamlaw07_awake_sm), (44, heap_New_sm), (46, heap_Form_sm), (49, heap_Used_sm), (51, heap_Open_sm), (53, heap_Close_sm), (55, heap_Free_sm), (57, heap_Lay_sm), (59, flotsamref02_Get_sm)]
noncomputable def flotsamlaw07_HeapApart_fl : List (Nat × Func) := []
noncomputable def flotsamlaw07_HeapApart_es : List AE := [⟨8, 12, 0, 3, flotsamlaw07_HeapApart_L0⟩, ⟨8, 12, 0, 0, flotsamlaw07_HeapApart_L1⟩, ⟨8, 12, 0, 7, flotsamlaw07_HeapApart_L2⟩, ⟨8, 12, 0, 5, flotsamlaw07_HeapApart_L3⟩, ⟨8, 12, 0, 9, flotsamlaw07_HeapApart_L4⟩]
theorem flotsamlaw07_HeapApart_den0 : (fun x => denStep TEv (look1 flotsamlaw07_HeapApart_S) (look1 flotsamlaw07_HeapApart_fl) (annOf flotsamlaw07_HeapApart_es) 8 12 Go.Proofs.Tryd.f12.ntmps 0 (cat (bodyOf Go.Proofs.Tryd.f12) [true, true, true, true, true, true, false, true, false, false, true, false, false, true, false, true, false, true, true, true, true, true, false, true, true, true, true, false, true, false, false]) flotsamlaw07_HeapApart_L0 x) = flotsamlaw07_HeapApart_s0 := by kernel_rfl
theorem flotsamlaw07_HeapApart_den1 : (fun x => denStep TEv (look1 flotsamlaw07_HeapApart_S) (look1 flotsamlaw07_HeapApart_fl) (annOf flotsamlaw07_HeapApart_es) 8 12 Go.Proofs.Tryd.f12.ntmps 0 (cat (bodyOf Go.Proofs.Tryd.f12) [true, true, true, true, true, true, false, true, false, false]) flotsamlaw07_HeapApart_L1 x) = flotsamlaw07_HeapApart_s1 := by kernel_rfl
theorem flotsamlaw07_HeapApart_den2 : (fun x => denStep TEv (look1 flotsamlaw07_HeapApart_S) (look1 flotsamlaw07_HeapApart_fl) (annOf flotsamlaw07_HeapApart_es) 8 12 Go.Proofs.Tryd.f12.ntmps 0 (cat (bodyOf Go.Proofs.Tryd.f12) [true, true, true, true, true, true, true, true, true, false, true, false, false, true, false, false, true, false, true, false, false]) flotsamlaw07_HeapApart_L2 x) = flotsamlaw07_HeapApart_s2 := by kernel_rfl
theorem flotsamlaw07_HeapApart_den3 : (fun x => denStep TEv (look1 flotsamlaw07_HeapApart_S) (look1 flotsamlaw07_HeapApart_fl) (annOf flotsamlaw07_HeapApart_es) 8 12 Go.Proofs.Tryd.f12.ntmps 0 (cat (bodyOf Go.Proofs.Tryd.f12) [true, true, true, true, true, true, true, true, true, false, true, false, false]) flotsamlaw07_HeapApart_L3 x) = flotsamlaw07_HeapApart_s3 := by kernel_rfl
theorem flotsamlaw07_HeapApart_den4 : (fun x => denStep TEv (look1 flotsamlaw07_HeapApart_S) (look1 flotsamlaw07_HeapApart_fl) (annOf flotsamlaw07_HeapApart_es) 8 12 Go.Proofs.Tryd.f12.ntmps 0 (cat (bodyOf Go.Proofs.Tryd.f12) [true, true, true, true, true, true, true, true, true, true, false, true, false, false]) flotsamlaw07_HeapApart_L4 x) = flotsamlaw07_HeapApart_s4 := by kernel_rfl
theorem flotsamlaw07_HeapApart_den : (fun x => denFun TEv (look1 flotsamlaw07_HeapApart_S) (look1 flotsamlaw07_HeapApart_fl) (annOf flotsamlaw07_HeapApart_es) 8 12 Go.Proofs.Tryd.f12 flotsamlaw07_HeapApart_sm.a flotsamlaw07_HeapApart_sm.r x) = flotsamlaw07_HeapApart_sm.F := by kernel_rfl
theorem flotsamlaw07_HeapApart_ok0 : AEok Go.Proofs.Tryd.prog TEv (look1 flotsamlaw07_HeapApart_S) (look1 flotsamlaw07_HeapApart_fl) (annOf flotsamlaw07_HeapApart_es) ⟨8, 12, 0, 3, flotsamlaw07_HeapApart_L0⟩ := aeok_of 9223372036854775808 Go.Proofs.Tryd.func12 (by kernel_rfl) flotsamlaw07_HeapApart_den0 (by kernel_rfl)
theorem flotsamlaw07_HeapApart_ok1 : AEok Go.Proofs.Tryd.prog TEv (look1 flotsamlaw07_HeapApart_S) (look1 flotsamlaw07_HeapApart_fl) (annOf flotsamlaw07_HeapApart_es) ⟨8, 12, 0, 0, flotsamlaw07_HeapApart_L1⟩ := aeok_of 9223372036854775808 Go.Proofs.Tryd.func12 (by kernel_rfl) flotsamlaw07_HeapApart_den1 (by kernel_rfl)
theorem flotsamlaw07_HeapApart_ok2 : AEok Go.Proofs.Tryd.prog TEv (look1 flotsamlaw07_HeapApart_S) (look1 flotsamlaw07_HeapApart_fl) (annOf flotsamlaw07_HeapApart_es) ⟨8, 12, 0, 7, flotsamlaw07_HeapApart_L2⟩ := aeok_of 9223372036854775808 Go.Proofs.Tryd.func12 (by kernel_rfl) flotsamlaw07_HeapApart_den2 (by kernel_rfl)
theorem flotsamlaw07_HeapApart_ok3 : AEok Go.Proofs.Tryd.prog TEv (look1 flotsamlaw07_HeapApart_S) (look1 flotsamlaw07_HeapApart_fl) (annOf flotsamlaw07_HeapApart_es) ⟨8, 12, 0, 5, flotsamlaw07_HeapApart_L3⟩ := aeok_of 9223372036854775808 Go.Proofs.Tryd.func12 (by kernel_rfl) flotsamlaw07_HeapApart_den3 (by kernel_rfl)
theorem flotsamlaw07_HeapApart_ok4 : AEok Go.Proofs.Tryd.prog TEv (look1 flotsamlaw07_HeapApart_S) (look1 flotsamlaw07_HeapApart_fl) (annOf flotsamlaw07_HeapApart_es) ⟨8, 12, 0, 9, flotsamlaw07_HeapApart_L4⟩ := aeok_of 9223372036854775808 Go.Proofs.Tryd.func12 (by kernel_rfl) flotsamlaw07_HeapApart_den4 (by kernel_rfl)
theorem flotsamlaw07_HeapApart_sem : SemOf Go.Proofs.Tryd.prog 12 flotsamlaw07_HeapApart_sm :=
  semMk teOk (sl := flotsamlaw07_HeapApart_S) (all_cons flotsamlaw07_awake_sem (all_cons heap_New_sem (all_cons heap_Form_sem (all_cons heap_Used_sem (all_cons heap_Open_sem (all_cons heap_Close_sem (all_cons heap_Free_sem (all_cons heap_Lay_sem (all_cons flotsamref02_Get_sem all_nil))))))))) (fl := flotsamlaw07_HeapApart_fl) (all_nil) (es := flotsamlaw07_HeapApart_es) Go.Proofs.Tryd.func12 (by kernel_rfl) rfl (all_cons flotsamlaw07_HeapApart_ok0 (all_cons flotsamlaw07_HeapApart_ok1 (all_cons flotsamlaw07_HeapApart_ok2 (all_cons flotsamlaw07_HeapApart_ok3 (all_cons flotsamlaw07_HeapApart_ok4 (all_nil)))))) rfl flotsamlaw07_HeapApart_den

/-! ### flotsam/flotsamlaw07.HeapBack -/
def flotsamlaw07_HeapBack_s0r (v12 : Int) (v19 : Int) (v20 : Int) (c0 : Heap) (c1760 : Heap) : Option (SRes (.cons cI (.cons cI (.cons cI (.cons cHeap (.cons cHeap .nil))))) (.cons cHeap (.cons cHeap .nil)) (.cons .bool .nil)) :=
  bif decide (v20 < v19) then
    bif decide (0 ≤ (wi64 (v12 + v20))) then
      bif decide ((wi64 (v12 + v20)) < (c0.1.length : Int)) then
        bif (c0.1.getD (wi64 (v12 + v20)).toNat 0) != 0 then
          some (.fin (.ret (true, ())))
        else
        some (.next (v12, v19, wi64 (v20 + 1), c0, c1760, ()))
      else none
    else none
  else
  some (.fin (.out (c0, c1760, ())))
def flotsamlaw07_HeapBack_s0 (x : Int × Int × Int × Heap × Heap × Unit) : Option (SRes (.cons cI (.cons cI (.cons cI (.cons cHeap (.cons cHeap .nil))))) (.cons cHeap (.cons cHeap .nil)) (.cons .bool .nil)) := flotsamlaw07_HeapBack_s0r x.1 x.2.1 x.2.2.1 x.2.2.2.1 x.2.2.2.2.1
def flotsamlaw07_HeapBack_l0 (x : Int × Int × Int × Heap × Heap × Unit) : Option (LRes (.cons cHeap (.cons cHeap .nil)) (.cons .bool .nil)) := iterL (h := (.cons cI (.cons cI (.cons cI (.cons cHeap (.cons cHeap .nil)))))) (o := (.cons cHeap (.cons cHeap .nil))) (r := (.cons .bool .nil)) flotsamlaw07_HeapBack_s0 9223372036854775808 x
def flotsamlaw07_HeapBack_r (a0 : Heap) (a1 : Int) (a2 : Int) : Option (Bool × Unit) :=
  (flotsamlaw07_awake ()).bind fun y1 =>
  bif !y1.1 then
    (flotsamlaw07_awake ()).bind fun y2 =>
    some (y2.1, ())
  else
  (flotsamref07_Form (a0, ())).bind fun y3 =>
  bif !y3.1 then
    (flotsamlaw07_awake ()).bind fun y4 =>
    some (y4.1, ())
  else
  (heap_Open (a0, a1, a2, ())).bind fun y5 =>
  bif y5.2.1 then
    (heap_Close (y5.1, a1, ())).bind fun y6 =>
    bif !y6.2.1 then
      some (false, ())
    else
    (flotsamref07_Same (y6.1, a0, ())).bind fun y7 =>
    bif !y7.1 then
      some (false, ())
    else
    (heap_Used (y5.1, ())).bind fun y8 =>
    (heap_Used (a0, ())).bind fun y9 =>
    bif y8.1 != y9.1 then
      some (false, ())
    else
    (heap_Lay (a0, a1, a2, ())).bind fun y10 =>
    bif !y10.2.2.1 then
      (flotsamref07_Same (y10.1, a0, ())).bind fun y11 =>
      bif y11.1 then
        some (y10.2.1 == 0, ())
      else
      some (false, ())
    else
    (heap_Find (y10.1, y10.2.1, ())).bind fun y12 =>
    (heap_Free (y10.1, y10.2.1, ())).bind fun y13 =>
    (heap_Used (y10.1, ())).bind fun y14 =>
    (heap_Used (a0, ())).bind fun y15 =>
    bif !y12.2.2.1 then
      some (false, ())
    else
    bif y12.1 != a1 then
      some (false, ())
    else
    bif !y13.2.1 then
      some (false, ())
    else
    bif decide ((wi64 (y14.1 - y15.1)) < 2) then
      some (false, ())
    else
    bif decide ((wi64 (y14.1 - y15.1)) > 16) then
      some (false, ())
    else
    (heap_Used (y13.1, ())).bind fun y16 =>
    (heap_Used (a0, ())).bind fun y17 =>
    bif y16.1 != y17.1 then
      some (false, ())
    else
    (flotsamlaw07_HeapBack_l0 (y10.2.1, wi64 (y14.1 - y15.1), 0, a0, y13.1, ())).bind fun s18 => match s18 with
    | .out s18 =>
      (flotsamref07_Same (s18.2.1, s18.1, ())).bind fun y19 =>
      some (y19.1, ())
    | .ret s18 =>
      some (s18.1, ())
  else
  (heap_Lay (a0, a1, a2, ())).bind fun y20 =>
  bif !y20.2.2.1 then
    (flotsamref07_Same (y20.1, a0, ())).bind fun y21 =>
    bif y21.1 then
      some (y20.2.1 == 0, ())
    else
    some (false, ())
  else
  (heap_Find (y20.1, y20.2.1, ())).bind fun y22 =>
  (heap_Free (y20.1, y20.2.1, ())).bind fun y23 =>
  (heap_Used (y20.1, ())).bind fun y24 =>
  (heap_Used (a0, ())).bind fun y25 =>
  bif !y22.2.2.1 then
    some (false, ())
  else
  bif y22.1 != a1 then
    some (false, ())
  else
  bif !y23.2.1 then
    some (false, ())
  else
  bif decide ((wi64 (y24.1 - y25.1)) < 2) then
    some (false, ())
  else
  bif decide ((wi64 (y24.1 - y25.1)) > 16) then
    some (false, ())
  else
  (heap_Used (y23.1, ())).bind fun y26 =>
  (heap_Used (a0, ())).bind fun y27 =>
  bif y26.1 != y27.1 then
    some (false, ())
  else
  (flotsamlaw07_HeapBack_l0 (y20.2.1, wi64 (y24.1 - y25.1), 0, a0, y23.1, ())).bind fun s28 => match s28 with
  | .out s28 =>
    (flotsamref07_Same (s28.2.1, s28.1, ())).bind fun y29 =>
    some (y29.1, ())
  | .ret s28 =>
    some (s28.1, ())
def flotsamlaw07_HeapBack (x : Heap × Val) : Option (Bool × Unit) := flotsamlaw07_HeapBack_r x.1 x.2.1 x.2.2.1
noncomputable def flotsamlaw07_HeapBack_sm : Sum := ⟨(.cons cHeap cVal), (.cons (.d .bool) .nil), flotsamlaw07_HeapBack⟩
noncomputable def flotsamlaw07_HeapBack_L0 : LoopSum := { hc := ⟨[], [3, 12, 17, 19, 20], [], [17], [0], [], 1760⟩, h := ⟨[(3, (.pvar 0 [])), (12, (.d cI)), (17, (.pvar 1760 [])), (19, (.d cI)), (20, (.d cI))], [(0, (.d cHeap)), (1760, (.d cHeap))], [], 1761⟩, xid := 0, oc := ⟨[], [3, 17], [], [17], [0], [], 1760⟩, o := ⟨[(3, (.pvar 0 [])), (17, (.pvar 1760 []))], [(0, (.d cHeap)), (1760, (.d cHeap))], [], 1761⟩, rc := ⟨[], [6], [], [], [], [], 1760⟩, r := ⟨[(6, (.d .bool))], [], [], 1760⟩, F := flotsamlaw07_HeapBack_l0 }
noncomputable def flotsamlaw07_HeapBack_S : List (Nat × Sum) := [(21, flotsamref07_Form_sm), (31, flotsamref07_Same_sm), (43, flotsamlaw07_awake_sm), (47, heap_Find_sm), (49, heap_Used_sm), (51, heap_Open_sm), (53, heap_Close_sm), (55, heap_Free_sm), (57, heap_Lay_sm)]
noncomputable def flotsamlaw07_HeapBack_fl : List (Nat × Func) := []
noncomputable def flotsamlaw07_HeapBack_es : List AE := [⟨8, 14, 0, 0, flotsamlaw07_HeapBack_L0⟩]
theorem flotsamlaw07_HeapBack_den0 : (fun x => denStep TEv (look1 flotsamlaw07_HeapBack_S) (look1 flotsamlaw07_HeapBack_fl) (annOf flotsamlaw07_HeapBack_es) 8 14 Go.Proofs.Tryd.f14.ntmps 0 (cat (bodyOf Go.Proofs.Tryd.f14) [true, true, true, true, true, true, true, true, true, true, false, true, false, false]) flotsamlaw07_HeapBack_L0 x) = flotsamlaw07_HeapBack_s0 := by kernel_rfl
theorem flotsamlaw07_HeapBack_den : (fun x => denFun TEv (look1 flotsamlaw07_HeapBack_S) (look1 flotsamlaw07_HeapBack_fl) (annOf flotsamlaw07_HeapBack_es) 8 14 Go.Proofs.Tryd.f14 flotsamlaw07_HeapBack_sm.a flotsamlaw07_HeapBack_sm.r x) = flotsamlaw07_HeapBack_sm.F := by kernel_rfl
theorem flotsamlaw07_HeapBack_ok0 : AEok Go.Proofs.Tryd.prog TEv (look1 flotsamlaw07_HeapBack_S) (look1 flotsamlaw07_HeapBack_fl) (annOf flotsamlaw07_HeapBack_es) ⟨8, 14, 0, 0, flotsamlaw07_HeapBack_L0⟩ := aeok_of 9223372036854775808 Go.Proofs.Tryd.func14 (by kernel_rfl) flotsamlaw07_HeapBack_den0 (by kernel_rfl)
theorem flotsamlaw07_HeapBack_sem : SemOf Go.Proofs.Tryd.prog 14 flotsamlaw07_HeapBack_sm :=
  semMk teOk (sl := flotsamlaw07_HeapBack_S) (all_cons flotsamref07_Form_sem (all_cons flotsamref07_Same_sem (all_cons flotsamlaw07_awake_sem (all_cons heap_Find_sem (all_cons heap_Used_sem (all_cons heap_Open_sem (all_cons heap_Close_sem (all_cons heap_Free_sem (all_cons heap_Lay_sem all_nil))))))))) (fl := flotsamlaw07_HeapBack_fl) (all_nil) (es := flotsamlaw07_HeapBack_es) Go.Proofs.Tryd.func14 (by kernel_rfl) rfl (all_cons flotsamlaw07_HeapBack_ok0 (all_nil)) rfl flotsamlaw07_HeapBack_den

/-! ### flotsam/flotsamlaw07.HeapColour -/
def flotsamlaw07_HeapColour_s0r (v2 : Int) (v8 : Int) (v17 : Int) (c272 : Heap) (c544 : Heap) (c1056 : Hdr) (c1248 : Hdr) : Option (SRes (.cons cI (.cons cI (.cons cI (.cons cHeap (.cons cHeap (.cons cHdr (.cons cHdr .nil))))))) (.cons cI (.cons cHeap (.cons cHeap (.cons cHdr (.cons cHdr .nil))))) (.cons .bool .nil)) :=
  bif decide (v17 < (c272.1.length : Int)) then
    bif v17 != v8 then
      bif decide (0 ≤ v17) then
        bif decide (v17 < (c272.1.length : Int)) then
          bif decide (0 ≤ v17) then
            bif decide (v17 < (c544.1.length : Int)) then
              bif (c272.1.getD v17.toNat 0) != (c544.1.getD v17.toNat 0) then
                some (.fin (.ret (false, ())))
              else
              some (.next (v2, v8, wi64 (v17 + 1), c272, c544, c1056, c1248, ()))
            else none
          else none
        else none
      else none
    else
    some (.next (v2, v8, wi64 (v17 + 1), c272, c544, c1056, c1248, ()))
  else
  some (.fin (.out (v2, c272, c544, c1056, c1248, ())))
def flotsamlaw07_HeapColour_s0 (x : Int × Int × Int × Heap × Heap × Hdr × Hdr × Unit) : Option (SRes (.cons cI (.cons cI (.cons cI (.cons cHeap (.cons cHeap (.cons cHdr (.cons cHdr .nil))))))) (.cons cI (.cons cHeap (.cons cHeap (.cons cHdr (.cons cHdr .nil))))) (.cons .bool .nil)) := flotsamlaw07_HeapColour_s0r x.1 x.2.1 x.2.2.1 x.2.2.2.1 x.2.2.2.2.1 x.2.2.2.2.2.1 x.2.2.2.2.2.2.1
def flotsamlaw07_HeapColour_l0 (x : Int × Int × Int × Heap × Heap × Hdr × Hdr × Unit) : Option (LRes (.cons cI (.cons cHeap (.cons cHeap (.cons cHdr (.cons cHdr .nil))))) (.cons .bool .nil)) := iterL (h := (.cons cI (.cons cI (.cons cI (.cons cHeap (.cons cHeap (.cons cHdr (.cons cHdr .nil)))))))) (o := (.cons cI (.cons cHeap (.cons cHeap (.cons cHdr (.cons cHdr .nil)))))) (r := (.cons .bool .nil)) flotsamlaw07_HeapColour_s0 9223372036854775808 x
def flotsamlaw07_HeapColour_r (a0 : Heap) (a1 : Int) (a2 : Int) : Option (Bool × Unit) :=
  (flotsamlaw07_awake ()).bind fun y1 =>
  bif !y1.1 then
    (flotsamlaw07_awake ()).bind fun y2 =>
    some (y2.1, ())
  else
  (flotsamref07_Form (a0, ())).bind fun y3 =>
  bif !y3.1 then
    (flotsamlaw07_awake ()).bind fun y4 =>
    some (y4.1, ())
  else
  (heap_Lay (a0, a1, a2, ())).bind fun y5 =>
  (heap_Lay ((a0.1, a0.2.1, !a0.2.2.1, a0.2.2.2), a1, a2, ())).bind fun y6 =>
  bif !(y5.2.2.1 == y6.2.2.1) then
    some (false, ())
  else
  bif y5.2.1 != y6.2.1 then
    some (false, ())
  else
  bif (y5.1.1.length : Int) != (y6.1.1.length : Int) then
    some (false, ())
  else
  bif !y5.2.2.1 then
    some (true, ())
  else
  bif decide (0 ≤ y5.2.1) then
    bif decide (y5.2.1 < (y5.1.1.length : Int)) then
      (flotsamref02_Get (y5.1.1.getD y5.2.1.toNat 0, ())).bind fun y7 =>
      bif decide (0 ≤ y5.2.1) then
        bif decide (y5.2.1 < (y6.1.1.length : Int)) then
          (flotsamref02_Get (y6.1.1.getD y5.2.1.toNat 0, ())).bind fun y8 =>
          (flotsamlaw07_HeapColour_l0 (a2, y5.2.1, 0, y5.1, y6.1, y7.1, y8.1, ())).bind fun s9 => match s9 with
          | .out s9 =>
            bif s9.2.2.2.1.1 then
              bif s9.2.2.2.1.2.2.2.1 == s9.1 then
                bif s9.2.2.2.1.2.1 == s9.2.1.2.2.1 then
                  bif s9.2.2.2.2.1.2.1 == s9.2.2.1.2.2.1 then
                    bif !(s9.2.2.2.1.2.1 == s9.2.2.2.2.1.2.1) then
                      bif s9.2.2.2.1.2.2.1 == s9.2.2.2.2.1.2.2.1 then
                        some (s9.2.2.2.1.2.2.2.1 == s9.2.2.2.2.1.2.2.2.1, ())
                      else
                      some (false, ())
                    else
                    some (false, ())
                  else
                  some (false, ())
                else
                some (false, ())
              else
              some (false, ())
            else
            some (false, ())
          | .ret s9 =>
            some (s9.1, ())
        else none
      else none
    else none
  else none
def flotsamlaw07_HeapColour (x : Heap × Val) : Option (Bool × Unit) := flotsamlaw07_HeapColour_r x.1 x.2.1 x.2.2.1
noncomputable def flotsamlaw07_HeapColour_sm : Sum := ⟨(.cons cHeap cVal), (.cons (.d .bool) .nil), flotsamlaw07_HeapColour⟩
noncomputable def flotsamlaw07_HeapColour_L0 : LoopSum := { hc := ⟨[], [2, 7, 8, 10, 13, 15, 17], [], [], [272, 544, 1056, 1248], [], 1312⟩, h := ⟨[(2, (.d cI)), (7, (.pvar 272 [])), (8, (.d cI)), (10, (.pvar 544 [])), (13, (.pvar 1056 [])), (15, (.pvar 1248 [])), (17, (.d cI))], [(272, (.d cHeap)), (544, (.d cHeap)), (1056, (.d cHdr)), (1248, (.d cHdr))], [], 1312⟩, xid := 0, oc := ⟨[], [2, 7, 10, 13, 15], [], [], [272, 544, 1056, 1248], [], 1312⟩, o := ⟨[(2, (.d cI)), (7, (.pvar 272 [])), (10, (.pvar 544 [])), (13, (.pvar 1056 [])), (15, (.pvar 1248 []))], [(272, (.d cHeap)), (544, (.d cHeap)), (1056, (.d cHdr)), (1248, (.d cHdr))], [], 1312⟩, rc := ⟨[], [6], [], [], [], [], 1312⟩, r := ⟨[(6, (.d .bool))], [], [], 1312⟩, F := flotsamlaw07_HeapColour_l0 }
noncomputable def flotsamlaw07_HeapColour_S : List (Nat × Sum) := [(21, flotsamref07_Form_sm), (43, flotsamlaw07_awake_sm), (57, heap_Lay_sm), (59, flotsamref02_Get_sm)]
noncomputable def flotsamlaw07_HeapColour_fl : List (Nat × Func) := []
noncomputable def flotsamlaw07_HeapColour_es : List AE := [⟨8, 15, 0, 0, flotsamlaw07_HeapColour_L0⟩]
theorem flotsamlaw07_HeapColour_den0 : (fun x => denStep TEv (look1 flotsamlaw07_HeapColour_S) (look1 flotsamlaw07_HeapColour_fl) (annOf flotsamlaw07_HeapColour_es) 8 15 Go.Proofs.Tryd.f15.ntmps 0 (cat (bodyOf Go.Proofs.Tryd.f15) [true, true, true, true, true, true, true, true, true, false, true, false, false]) flotsamlaw07_HeapColour_L0 x) = flotsamlaw07_HeapColour_s0 := by kernel_rfl
theorem flotsamlaw07_HeapColour_den : (fun x => denFun TEv (look1 flotsamlaw07_HeapColour_S) (look1 flotsamlaw07_HeapColour_fl) (annOf flotsamlaw07_HeapColour_es) 8 15 Go.Proofs.Tryd.f15 flotsamlaw07_HeapColour_sm.a flotsamlaw07_HeapColour_sm.r x) = flotsamlaw07_HeapColour_sm.F := by kernel_rfl
theorem flotsamlaw07_HeapColour_ok0 : AEok Go.Proofs.Tryd.prog TEv (look1 flotsamlaw07_HeapColour_S) (look1 flotsamlaw07_HeapColour_fl) (annOf flotsamlaw07_HeapColour_es) ⟨8, 15, 0, 0, flotsamlaw07_HeapColour_L0⟩ := aeok_of 9223372036854775808 Go.Proofs.Tryd.func15 (by kernel_rfl) flotsamlaw07_HeapColour_den0 (by kernel_rfl)
theorem flotsamlaw07_HeapColour_sem : SemOf Go.Proofs.Tryd.prog 15 flotsamlaw07_HeapColour_sm :=
  semMk teOk (sl := flotsamlaw07_HeapColour_S) (all_cons flotsamref07_Form_sem (all_cons flotsamlaw07_awake_sem (all_cons heap_Lay_sem (all_cons flotsamref02_Get_sem all_nil)))) (fl := flotsamlaw07_HeapColour_fl) (all_nil) (es := flotsamlaw07_HeapColour_es) Go.Proofs.Tryd.func15 (by kernel_rfl) rfl (all_cons flotsamlaw07_HeapColour_ok0 (all_nil)) rfl flotsamlaw07_HeapColour_den
end Go.Proofs.YtdfhopakojmjkaaDoor.Dfn
