/- What functions come to. Printed by a program of this session. -/
import Derived.Test.YtkjpakaidjpjgaaGreatDoorDenF7
namespace Go.Proofs.YtkjpakaidjpjgaaGreatDoor.Den
open Go
set_option maxRecDepth 100000
set_option linter.unusedVariables false
noncomputable section
abbrev r17_Right_h0 : U := (.cons cI (.cons cHeap (.cons cMarker .nil)))
abbrev r17_Right_o0 : U := (.cons cHeap (.cons cMarker .nil))
abbrev r17_Right_e0 : U := (.cons .bool .nil)
def r17_Right_s0r (v5 : Int) (c0 : Heap) (c16 : Marker) : Option (SRes r17_Right_h0 r17_Right_o0 r17_Right_e0) :=
 bif decide (v5 < (c16.2.1.length : Int)) then
  bif decide (0 ≤ v5) then
   bif decide (v5 < (c16.2.1.length : Int)) then
    (r13_Right (c16.2.1.getD v5.toNat (0, [], ()), ())).bind fun y1 =>
    bif !y1.1 then
     some (.fin (.ret (false, ())))
    else
    some (.next (wi64 (v5 + 1), c0, c16, ()))
   else none
  else none
 else
 some (.fin (.out (c0, c16, ())))
def r17_Right_s0 (x : r17_Right_h0.T) : Option (SRes r17_Right_h0 r17_Right_o0 r17_Right_e0) := r17_Right_s0r x.1 x.2.1 x.2.2.1
def r17_Right_l0 (x : r17_Right_h0.T) : Option (LRes r17_Right_o0 r17_Right_e0) := iterL r17_Right_s0 9223372036854775808 x
def r17_Right_r (a0 : Heap) (a1 : Marker) : Option (Bool × Unit) :=
 (r17_Right_l0 (0, a0, a1, ())).bind fun s2 => match s2 with
 | .out s2 =>
  (r13_Right (s2.2.1.1, ())).bind fun y3 =>
  bif !y3.1 then
   some (false, ())
  else
  bif decide (s2.2.1.2.2.2.2.2.1 < (-1)) then
   some (false, ())
  else
  bif decide (s2.2.1.2.2.2.2.2.1 > (s2.1.1.length : Int)) then
   some (false, ())
  else
  bif s2.2.1.2.2.2.1 == (-1) then
   some (s2.2.1.2.2.2.2.1 == 0, ())
  else
  (r08_Field (s2.1, s2.2.1.2.2.2.1, s2.2.1.2.2.2.2.1, ())).bind fun y4 =>
  some (y4.2.1 == 0, ())
 | .ret s2 =>
  some (s2.1, ())
def r17_Right (x : Heap × Marker × Unit) : Option (Bool × Unit) := r17_Right_r x.1 x.2.1
def r17_Right_sm : Sum := ⟨(.cons cHeap (.cons cMarker .nil)), (.cons (.d .bool) .nil), r17_Right⟩
def r17_Right_L0 : LoopSum := { hc := ⟨[], [2, 3, 5], [], [], [0, 16], [], 64⟩, h := ⟨[(2, (.pvar 0 [])), (3, (.pvar 16 [])), (5, (.d cI))], [(0, (.d cHeap)), (16, (.d cMarker))], [], 64⟩, xid := 0, oc := ⟨[], [2, 3], [], [], [0, 16], [], 64⟩, o := ⟨[(2, (.pvar 0 [])), (3, (.pvar 16 []))], [(0, (.d cHeap)), (16, (.d cMarker))], [], 64⟩, rc := ⟨[], [4], [], [], [], [], 64⟩, r := ⟨[(4, (.d .bool))], [], [], 64⟩, F := r17_Right_l0 }
def r17_Right_c : Ctx := ⟨[(109, r08_Field_sm), (151, r13_Right_sm)], [], [⟨8, 80, 0, 0, r17_Right_L0⟩]⟩
theorem r17_Right_sem : SemOf Tryz.prog 80 r17_Right_sm := semC (c := r17_Right_c) Tryz.func80 (sc r08_Field_sem (sc r13_Right_sem an)) an (ec (aeC [true, false, true, false, false] r17_Right_s0 Tryz.func80) an) 8
abbrev r20_Form_h0 : U := (.cons cI (.cons cWrld .nil))
abbrev r20_Form_o0 : U := (.cons cWrld .nil)
abbrev r20_Form_e0 : U := (.cons .bool .nil)
def r20_Form_s0r (v3 : Int) (c0 : Wrld) : Option (SRes r20_Form_h0 r20_Form_o0 r20_Form_e0) :=
 bif decide (v3 < (c0.2.2.1.length : Int)) then
  bif decide (0 ≤ v3) then
   bif decide (v3 < (c0.2.2.1.length : Int)) then
    bif decide (((c0.2.2.1.getD v3.toNat ([], 0, (0, 0, 0, 0, ()), 0, (0, 0, ()), List.replicate 4 0, ())).1.length : Int) > c0.1.2.2.1) then
     some (.fin (.ret (false, ())))
    else
    some (.next (wi64 (v3 + 1), c0, ()))
   else none
  else none
 else
 some (.fin (.out (c0, ())))
def r20_Form_s0 (x : r20_Form_h0.T) : Option (SRes r20_Form_h0 r20_Form_o0 r20_Form_e0) := r20_Form_s0r x.1 x.2.1
def r20_Form_l0 (x : r20_Form_h0.T) : Option (LRes r20_Form_o0 r20_Form_e0) := iterL r20_Form_s0 9223372036854775808 x
def r20_Form_r (a0 : Wrld) : Option (Bool × Unit) :=
 (r20_May (a0.1, ())).bind fun y1 =>
 bif !y1.1 then
  some (false, ())
 else
 (r07_Form (a0.2.1, ())).bind fun y2 =>
 bif !y2.1 then
  some (false, ())
 else
 bif (a0.2.1.2.1.length : Int) != a0.1.1 then
  some (false, ())
 else
 bif (a0.2.2.1.length : Int) != a0.1.2.1 then
  some (false, ())
 else
 bif decide (a0.2.2.2.2.1 < 0) then
  some (false, ())
 else
 bif decide (a0.2.2.2.2.1 > 2) then
  some (false, ())
 else
 (r20_Form_l0 (0, a0, ())).bind fun s3 => match s3 with
 | .out s3 =>
  (r20_Caches (s3.1, ())).bind fun y4 =>
  (r11_Right (s3.1.2.1, y4.1, ())).bind fun y5 =>
  bif !y5.1 then
   some (false, ())
  else
  bif s3.1.2.2.2.2.1 == 1 then
   (r17_Right (s3.1.2.1, s3.1.2.2.2.1, ())).bind fun y6 =>
   bif y6.1 then
    some ((s3.1.2.2.2.1.2.1.length : Int) == (s3.1.2.2.1.length : Int), ())
   else
   some (false, ())
  else
  some (true, ())
 | .ret s3 =>
  some (s3.1, ())
def r20_Form (x : Wrld × Unit) : Option (Bool × Unit) := r20_Form_r x.1
def r20_Form_sm : Sum := ⟨(.cons cWrld .nil), (.cons (.d .bool) .nil), r20_Form⟩
def r20_Form_L0 : LoopSum := { hc := ⟨[], [1, 3], [], [], [0], [], 672⟩, h := ⟨[(1, (.pvar 0 [])), (3, (.d cI))], [(0, (.d cWrld))], [], 672⟩, xid := 0, oc := ⟨[], [1], [], [], [0], [], 672⟩, o := ⟨[(1, (.pvar 0 []))], [(0, (.d cWrld))], [], 672⟩, rc := ⟨[], [2], [], [], [], [], 672⟩, r := ⟨[(2, (.d .bool))], [], [], 672⟩, F := r20_Form_l0 }
def r20_Form_c : Ctx := ⟨[(49, r20_Caches_sm), (77, r20_May_sm), (78, r07_Form_sm), (79, r11_Right_sm), (80, r17_Right_sm)], [], [⟨8, 27, 0, 0, r20_Form_L0⟩]⟩
theorem r20_Form_sem : SemOf Tryz.prog 27 r20_Form_sm := semC (c := r20_Form_c) Tryz.func27 (sc r20_Caches_sem (sc r20_May_sem (sc r07_Form_sem (sc r11_Right_sem (sc r17_Right_sem an))))) an (ec (aeC [true, true, false, true, false, false] r20_Form_s0 Tryz.func27) an) 8
abbrev r09_nought_h0 : U := (.cons cI (.cons cI (.cons cI (.cons cHeap .nil))))
abbrev r09_nought_o0 : U := .nil
abbrev r09_nought_e0 : U := (.cons .bool .nil)
def r09_nought_s0r (v1 : Int) (v2 : Int) (v7 : Int) (c0 : Heap) : Option (SRes r09_nought_h0 r09_nought_o0 r09_nought_e0) :=
 bif decide (v7 < v2) then
  bif decide (0 ≤ (wi64 (v1 + v7))) then
   bif decide ((wi64 (v1 + v7)) < (c0.1.length : Int)) then
    bif (c0.1.getD (wi64 (v1 + v7)).toNat 0) != 0 then
     some (.fin (.ret (false, ())))
    else
    some (.next (v1, v2, wi64 (v7 + 1), c0, ()))
   else none
  else none
 else
 some (.fin (.out ()))
def r09_nought_s0 (x : r09_nought_h0.T) : Option (SRes r09_nought_h0 r09_nought_o0 r09_nought_e0) := r09_nought_s0r x.1 x.2.1 x.2.2.1 x.2.2.2.1
def r09_nought_l0 (x : r09_nought_h0.T) : Option (LRes r09_nought_o0 r09_nought_e0) := iterL r09_nought_s0 9223372036854775808 x
def r09_nought_r (a0 : Heap) (a1 : Int) (a2 : Int) : Option (Bool × Unit) :=
 (r09_nought_l0 (a1, a2, 0, a0, ())).bind fun s1 => match s1 with
 | .out s1 =>
  some (true, ())
 | .ret s1 =>
  some (s1.1, ())
def r09_nought (x : Heap × Val) : Option (Bool × Unit) := r09_nought_r x.1 x.2.1 x.2.2.1
def r09_nought_sm : Sum := ⟨(.cons cHeap cVal), (.cons (.d .bool) .nil), r09_nought⟩
def r09_nought_L0 : LoopSum := { hc := ⟨[], [1, 2, 3, 7], [], [], [0], [], 48⟩, h := ⟨[(1, (.d cI)), (2, (.d cI)), (3, (.pvar 0 [])), (7, (.d cI))], [(0, (.d cHeap))], [], 48⟩, xid := 0, oc := ⟨[], [], [], [], [], [], 48⟩, o := ⟨[], [], [], 48⟩, rc := ⟨[], [6], [], [], [], [], 48⟩, r := ⟨[(6, (.d .bool))], [], [], 48⟩, F := r09_nought_l0 }
def r09_nought_c : Ctx := ⟨[], [], [⟨8, 81, 0, 0, r09_nought_L0⟩]⟩
theorem r09_nought_sem : SemOf Tryz.prog 81 r09_nought_sm := semC (c := r09_nought_c) Tryz.func81 an an (ec (aeC [true, false, true, false, false] r09_nought_s0 Tryz.func81) an) 8
abbrev r09_Check_h0 : U := (.cons cI (.cons cI (.cons cI (.cons cI (.cons cHeap (.cons cSpan .nil))))))
abbrev r09_Check_o0 : U := (.cons cI (.cons cI (.cons cHeap .nil)))
abbrev r09_Check_e0 : U := (.cons cI .nil)
def r09_Check_s0r (v3 : Int) (v4 : Int) (v6 : Int) (v7 : Int) (c0 : Heap) (c272 : Span) : Option (SRes r09_Check_h0 r09_Check_o0 r09_Check_e0) :=
 (r04_Blocks (c272.2.1, ())).bind fun y4 =>
 bif decide (v7 < y4.1) then
  (r03_Has (c272.2.2.1, v7, ())).bind fun y5 =>
  bif y5.1 then
   (r09_nought (c0, wi64 ((wi64 (32 * v4)) + (wi64 (v7 * v6))), v6, ())).bind fun y6 =>
   bif !y6.1 then
    some (.fin (.ret (2, ())))
   else
   some (.next (v3, v4, v6, wi64 (v7 + 1), c0, c272, ()))
  else
  (r08_Get (c0, wi64 ((wi64 (32 * v4)) + (wi64 (v7 * v6))), ())).bind fun y7 =>
  bif !y7.2.1 then
   some (.fin (.ret (2, ())))
  else
  bif y7.1.2.2.1 != c272.2.1 then
   some (.fin (.ret (2, ())))
  else
  (r09_nought (c0, wi64 ((wi64 ((wi64 ((wi64 (32 * v4)) + (wi64 (v7 * v6)))) + 1)) + y7.1.2.2.2.1), wi64 ((wi64 (v6 - 1)) - y7.1.2.2.2.1), ())).bind fun y8 =>
  bif !y8.1 then
   some (.next (3, v4, v6, wi64 (v7 + 1), c0, c272, ()))
  else
  some (.next (v3, v4, v6, wi64 (v7 + 1), c0, c272, ()))
 else
 some (.fin (.out (v3, v4, c0, ())))
def r09_Check_s0 (x : r09_Check_h0.T) : Option (SRes r09_Check_h0 r09_Check_o0 r09_Check_e0) := r09_Check_s0r x.1 x.2.1 x.2.2.1 x.2.2.2.1 x.2.2.2.2.1 x.2.2.2.2.2.1
def r09_Check_l0 (x : r09_Check_h0.T) : Option (LRes r09_Check_o0 r09_Check_e0) := iterL r09_Check_s0 9223372036854775808 x
abbrev r09_Check_h1 : U := (.cons cI (.cons cI (.cons cHeap .nil)))
abbrev r09_Check_o1 : U := (.cons cI (.cons cHeap .nil))
abbrev r09_Check_e1 : U := (.cons cI .nil)
def r09_Check_s1r (v3 : Int) (v4 : Int) (c0 : Heap) : Option (SRes r09_Check_h1 r09_Check_o1 r09_Check_e1) :=
 bif decide (v4 < (c0.2.1.length : Int)) then
  bif decide (0 ≤ v4) then
   bif decide (v4 < (c0.2.1.length : Int)) then
    bif (c0.2.1.getD v4.toNat (0, 0, 0, ())).1 == 0 then
     (r09_nought (c0, wi64 (32 * v4), 32, ())).bind fun y2 =>
     bif !y2.1 then
      some (.fin (.ret (2, ())))
     else
     some (.next (v3, wi64 (v4 + 1), c0, ()))
    else
    (r04_Words ((c0.2.1.getD v4.toNat (0, 0, 0, ())).2.1, ())).bind fun y3 =>
    (r09_Check_l0 (v3, v4, y3.1, 0, c0, c0.2.1.getD v4.toNat (0, 0, 0, ()), ())).bind fun s9 => match s9 with
    | .out s9 =>
     some (.next (s9.1, wi64 (s9.2.1 + 1), s9.2.2.1, ()))
    | .ret s9 =>
     some (.fin (.ret (s9.1, ())))
   else none
  else none
 else
 some (.fin (.out (v3, c0, ())))
def r09_Check_s1 (x : r09_Check_h1.T) : Option (SRes r09_Check_h1 r09_Check_o1 r09_Check_e1) := r09_Check_s1r x.1 x.2.1 x.2.2.1
def r09_Check_l1 (x : r09_Check_h1.T) : Option (LRes r09_Check_o1 r09_Check_e1) := iterL r09_Check_s1 9223372036854775808 x
abbrev r09_Check_h2 : U := (.cons cI (.cons cI (.cons cHeap (.cons (.sl cI) (.cons (.sl cI) .nil)))))
abbrev r09_Check_o2 : U := (.cons cI (.cons cHeap (.cons (.sl cI) .nil)))
abbrev r09_Check_e2 : U := (.cons cI .nil)
def r09_Check_s2r (v12 : Int) (v14 : Int) (c0 : Heap) (r160 : List Int) (r672 : List Int) : Option (SRes r09_Check_h2 r09_Check_o2 r09_Check_e2) :=
 bif decide (v14 < (r672.length : Int)) then
  bif decide (0 ≤ v14) then
   bif decide (v14 < (r672.length : Int)) then
    (r08_In (r160, r672.getD v14.toNat 0, ())).bind fun y14 =>
    bif !y14.1 then
     some (.fin (.ret (4, ())))
    else
    some (.next (v12, wi64 (v14 + 1), c0, r160, r672, ()))
   else none
  else none
 else
 some (.fin (.out (v12, c0, r160, ())))
def r09_Check_s2 (x : r09_Check_h2.T) : Option (SRes r09_Check_h2 r09_Check_o2 r09_Check_e2) := r09_Check_s2r x.1 x.2.1 x.2.2.1 x.2.2.2.1 x.2.2.2.2.1
def r09_Check_l2 (x : r09_Check_h2.T) : Option (LRes r09_Check_o2 r09_Check_e2) := iterL r09_Check_s2 9223372036854775808 x
abbrev r09_Check_h3 : U := (.cons cI (.cons cHeap (.cons (.sl cI) .nil)))
abbrev r09_Check_o3 : U := .nil
abbrev r09_Check_e3 : U := (.cons cI .nil)
def r09_Check_s3r (v12 : Int) (c0 : Heap) (r160 : List Int) : Option (SRes r09_Check_h3 r09_Check_o3 r09_Check_e3) :=
 bif decide (v12 < (r160.length : Int)) then
  bif decide (0 ≤ v12) then
   bif decide (v12 < (r160.length : Int)) then
    bif decide (0 ≤ (wi64 ((r160.getD v12.toNat 0).tdiv 32))) then
     bif decide ((wi64 ((r160.getD v12.toNat 0).tdiv 32)) < (c0.2.1.length : Int)) then
      bif (c0.2.1.getD (wi64 ((r160.getD v12.toNat 0).tdiv 32)).toNat (0, 0, 0, ())).1 != 1 then
       bif decide (0 ≤ v12) then
        bif decide (v12 < (r160.length : Int)) then
         (r08_Black (c0, r160.getD v12.toNat 0, ())).bind fun y12 =>
         bif !y12.1 then
          some (.next (wi64 (v12 + 1), c0, r160, ()))
         else
         bif decide (0 ≤ v12) then
          bif decide (v12 < (r160.length : Int)) then
           (r08_Refs (c0, r160.getD v12.toNat 0, ())).bind fun y13 =>
           (r09_Check_l2 (v12, 0, c0, r160, y13.1, ())).bind fun s15 => match s15 with
           | .out s15 =>
            some (.next (wi64 (s15.1 + 1), s15.2.1, s15.2.2.1, ()))
           | .ret s15 =>
            some (.fin (.ret (s15.1, ())))
          else none
         else none
        else none
       else none
      else
      bif decide (0 ≤ v12) then
       bif decide (v12 < (r160.length : Int)) then
        (r08_Refs (c0, r160.getD v12.toNat 0, ())).bind fun y16 =>
        (r09_Check_l2 (v12, 0, c0, r160, y16.1, ())).bind fun s17 => match s17 with
        | .out s17 =>
         some (.next (wi64 (s17.1 + 1), s17.2.1, s17.2.2.1, ()))
        | .ret s17 =>
         some (.fin (.ret (s17.1, ())))
       else none
      else none
     else none
    else none
   else none
  else none
 else
 some (.fin (.out ()))
def r09_Check_s3 (x : r09_Check_h3.T) : Option (SRes r09_Check_h3 r09_Check_o3 r09_Check_e3) := r09_Check_s3r x.1 x.2.1 x.2.2.1
def r09_Check_l3 (x : r09_Check_h3.T) : Option (LRes r09_Check_o3 r09_Check_e3) := iterL r09_Check_s3 9223372036854775808 x
def r09_Check_r (a0 : Heap) : Option (Int × Unit) :=
 (r07_Form (a0, ())).bind fun y1 =>
 bif !y1.1 then
  some (1, ())
 else
 (r09_Check_l1 (0, 0, a0, ())).bind fun s10 => match s10 with
 | .out s10 =>
  bif s10.1 != 0 then
   some (s10.1, ())
  else
  (r08_List (s10.2.1, ())).bind fun y11 =>
  (r09_Check_l3 (0, s10.2.1, y11.1, ())).bind fun s18 => match s18 with
  | .out s18 =>
   some (0, ())
  | .ret s18 =>
   some (s18.1, ())
 | .ret s10 =>
  some (s10.1, ())
def r09_Check (x : Heap × Unit) : Option (Int × Unit) := r09_Check_r x.1
def r09_Check_sm : Sum := ⟨(.cons cHeap .nil), (.cons (.d cI) .nil), r09_Check⟩
def r09_Check_L0 : LoopSum := { hc := ⟨[], [1, 3, 4, 5, 6, 7], [], [], [0, 272], [], 432⟩, h := ⟨[(1, (.pvar 0 [])), (3, (.d cI)), (4, (.d cI)), (5, (.pvar 272 [])), (6, (.d cI)), (7, (.d cI))], [(0, (.d cHeap)), (272, (.d cSpan))], [], 432⟩, xid := 2, oc := ⟨[], [1, 3, 4], [], [], [0], [], 432⟩, o := ⟨[(1, (.pvar 0 [])), (3, (.d cI)), (4, (.d cI))], [(0, (.d cHeap))], [], 432⟩, rc := ⟨[], [2], [], [], [], [], 432⟩, r := ⟨[(2, (.d cI))], [], [], 432⟩, F := r09_Check_l0 }
def r09_Check_L1 : LoopSum := { hc := ⟨[], [1, 3, 4], [], [], [0], [], 112⟩, h := ⟨[(1, (.pvar 0 [])), (3, (.d cI)), (4, (.d cI))], [(0, (.d cHeap))], [], 112⟩, xid := 0, oc := ⟨[], [1, 3], [], [], [0], [], 112⟩, o := ⟨[(1, (.pvar 0 [])), (3, (.d cI))], [(0, (.d cHeap))], [], 112⟩, rc := ⟨[], [2], [], [], [], [], 112⟩, r := ⟨[(2, (.d cI))], [], [], 112⟩, F := r09_Check_l1 }
def r09_Check_L2 : LoopSum := { hc := ⟨[], [1, 11, 12, 13, 14], [], [], [0], [160, 672], 720⟩, h := ⟨[(1, (.pvar 0 [])), (11, (.row 160)), (12, (.d cI)), (13, (.row 672)), (14, (.d cI))], [(0, (.d cHeap))], [(160, cI, true), (672, cI, true)], 720⟩, xid := 6, oc := ⟨[], [1, 11, 12], [], [], [0], [160], 720⟩, o := ⟨[(1, (.pvar 0 [])), (11, (.row 160)), (12, (.d cI))], [(0, (.d cHeap))], [(160, cI, true)], 720⟩, rc := ⟨[], [2], [], [], [], [], 720⟩, r := ⟨[(2, (.d cI))], [], [], 720⟩, F := r09_Check_l2 }
def r09_Check_L3 : LoopSum := { hc := ⟨[], [1, 11, 12], [], [], [0], [160], 208⟩, h := ⟨[(1, (.pvar 0 [])), (11, (.row 160)), (12, (.d cI))], [(0, (.d cHeap))], [(160, cI, true)], 208⟩, xid := 4, oc := ⟨[], [], [], [], [], [], 208⟩, o := ⟨[], [], [], 208⟩, rc := ⟨[], [2], [], [], [], [], 208⟩, r := ⟨[(2, (.d cI))], [], [], 208⟩, F := r09_Check_l3 }
def r09_Check_c : Ctx := ⟨[(65, r08_Get_sm), (66, r08_List_sm), (69, r08_Black_sm), (71, r08_In_sm), (78, r07_Form_sm), (81, r09_nought_sm), (82, r04_Words_sm), (83, r04_Blocks_sm), (84, r03_Has_sm), (85, r08_Refs_sm)], [], [⟨8, 28, 0, 2, r09_Check_L0⟩, ⟨8, 28, 0, 0, r09_Check_L1⟩, ⟨8, 28, 0, 6, r09_Check_L2⟩, ⟨8, 28, 0, 4, r09_Check_L3⟩]⟩
theorem r09_Check_sem : SemOf Tryz.prog 28 r09_Check_sm := semC (c := r09_Check_c) Tryz.func28 (sc r08_Get_sem (sc r08_List_sem (sc r08_Black_sem (sc r08_In_sem (sc r07_Form_sem (sc r09_nought_sem (sc r04_Words_sem (sc r04_Blocks_sem (sc r03_Has_sem (sc r08_Refs_sem an)))))))))) an (ec (aeC [true, true, true, false, true, false, false, true, false, false, true, true, true, true, false, false] r09_Check_s0 Tryz.func28) (ec (aeC [true, true, true, false, true, false, false] r09_Check_s1 Tryz.func28) (ec (aeC [true, true, true, true, true, true, false, true, false, false, true, false, false, true, true, true, false, false] r09_Check_s2 Tryz.func28) (ec (aeC [true, true, true, true, true, true, false, true, false, false] r09_Check_s3 Tryz.func28) an)))) 8
abbrev r21_Ready_h0 : U := (.cons cI (.cons cWrld .nil))
abbrev r21_Ready_o0 : U := .nil
abbrev r21_Ready_e0 : U := (.cons .bool .nil)
def r21_Ready_s0r (v3 : Int) (c0 : Wrld) : Option (SRes r21_Ready_h0 r21_Ready_o0 r21_Ready_e0) :=
 bif decide (v3 < (c0.2.2.1.length : Int)) then
  bif decide (0 ≤ v3) then
   bif decide (v3 < (c0.2.2.1.length : Int)) then
    bif decide ((c0.2.2.1.getD v3.toNat ([], 0, (0, 0, 0, 0, ()), 0, (0, 0, ()), List.replicate 4 0, ())).2.1 < 0) then
     some (.fin (.ret (false, ())))
    else
    bif decide ((c0.2.2.1.getD v3.toNat ([], 0, (0, 0, 0, 0, ()), 0, (0, 0, ()), List.replicate 4 0, ())).2.1 > 4) then
     some (.fin (.ret (false, ())))
    else
    bif decide ((c0.2.2.1.getD v3.toNat ([], 0, (0, 0, 0, 0, ()), 0, (0, 0, ()), List.replicate 4 0, ())).2.1 ≥ 1) then
     bif decide ((c0.2.2.1.getD v3.toNat ([], 0, (0, 0, 0, 0, ()), 0, (0, 0, ()), List.replicate 4 0, ())).2.1 ≤ 3) then
      bif decide (((c0.2.2.1.getD v3.toNat ([], 0, (0, 0, 0, 0, ()), 0, (0, 0, ()), List.replicate 4 0, ())).1.length : Int) ≥ c0.1.2.2.1) then
       some (.fin (.ret (false, ())))
      else
      bif (c0.2.2.1.getD v3.toNat ([], 0, (0, 0, 0, 0, ()), 0, (0, 0, ()), List.replicate 4 0, ())).2.1 == 1 then
       bif decide ((c0.2.2.1.getD v3.toNat ([], 0, (0, 0, 0, 0, ()), 0, (0, 0, ()), List.replicate 4 0, ())).2.2.1.2.1 < 0) then
        some (.fin (.ret (false, ())))
       else
       bif decide ((c0.2.2.1.getD v3.toNat ([], 0, (0, 0, 0, 0, ()), 0, (0, 0, ()), List.replicate 4 0, ())).2.2.1.2.1 > 15) then
        some (.fin (.ret (false, ())))
       else
       some (.next (wi64 (v3 + 1), c0, ()))
      else
      some (.next (wi64 (v3 + 1), c0, ()))
     else
     bif (c0.2.2.1.getD v3.toNat ([], 0, (0, 0, 0, 0, ()), 0, (0, 0, ()), List.replicate 4 0, ())).2.1 == 1 then
      bif decide ((c0.2.2.1.getD v3.toNat ([], 0, (0, 0, 0, 0, ()), 0, (0, 0, ()), List.replicate 4 0, ())).2.2.1.2.1 < 0) then
       some (.fin (.ret (false, ())))
      else
      bif decide ((c0.2.2.1.getD v3.toNat ([], 0, (0, 0, 0, 0, ()), 0, (0, 0, ()), List.replicate 4 0, ())).2.2.1.2.1 > 15) then
       some (.fin (.ret (false, ())))
      else
      some (.next (wi64 (v3 + 1), c0, ()))
     else
     some (.next (wi64 (v3 + 1), c0, ()))
    else
    bif (c0.2.2.1.getD v3.toNat ([], 0, (0, 0, 0, 0, ()), 0, (0, 0, ()), List.replicate 4 0, ())).2.1 == 1 then
     bif decide ((c0.2.2.1.getD v3.toNat ([], 0, (0, 0, 0, 0, ()), 0, (0, 0, ()), List.replicate 4 0, ())).2.2.1.2.1 < 0) then
      some (.fin (.ret (false, ())))
     else
     bif decide ((c0.2.2.1.getD v3.toNat ([], 0, (0, 0, 0, 0, ()), 0, (0, 0, ()), List.replicate 4 0, ())).2.2.1.2.1 > 15) then
      some (.fin (.ret (false, ())))
     else
     some (.next (wi64 (v3 + 1), c0, ()))
    else
    some (.next (wi64 (v3 + 1), c0, ()))
   else none
  else none
 else
 some (.fin (.out ()))
def r21_Ready_s0 (x : r21_Ready_h0.T) : Option (SRes r21_Ready_h0 r21_Ready_o0 r21_Ready_e0) := r21_Ready_s0r x.1 x.2.1
def r21_Ready_l0 (x : r21_Ready_h0.T) : Option (LRes r21_Ready_o0 r21_Ready_e0) := iterL r21_Ready_s0 9223372036854775808 x
def r21_Ready_r (a0 : Wrld) : Option (Bool × Unit) :=
 (r21_Ready_l0 (0, a0, ())).bind fun s1 => match s1 with
 | .out s1 =>
  some (true, ())
 | .ret s1 =>
  some (s1.1, ())
def r21_Ready (x : Wrld × Unit) : Option (Bool × Unit) := r21_Ready_r x.1
def r21_Ready_sm : Sum := ⟨(.cons cWrld .nil), (.cons (.d .bool) .nil), r21_Ready⟩
def r21_Ready_L0 : LoopSum := { hc := ⟨[], [1, 3], [], [], [0], [], 48⟩, h := ⟨[(1, (.pvar 0 [])), (3, (.d cI))], [(0, (.d cWrld))], [], 48⟩, xid := 0, oc := ⟨[], [], [], [], [], [], 48⟩, o := ⟨[], [], [], 48⟩, rc := ⟨[], [2], [], [], [], [], 48⟩, r := ⟨[(2, (.d .bool))], [], [], 48⟩, F := r21_Ready_l0 }
def r21_Ready_c : Ctx := ⟨[], [], [⟨8, 34, 0, 0, r21_Ready_L0⟩]⟩
theorem r21_Ready_sem : SemOf Tryz.prog 34 r21_Ready_sm := semC (c := r21_Ready_c) Tryz.func34 an an (ec (aeC [true, false, true, false, false] r21_Ready_s0 Tryz.func34) an) 8
def r22_Whole_r (a0 : Wrld) : Option (Bool × Unit) :=
 (r20_Form (a0, ())).bind fun y1 =>
 bif y1.1 then
  (r09_Check (a0.2.1, ())).bind fun y2 =>
  bif y2.1 == 0 then
   (r21_Ready (a0, ())).bind fun y3 =>
   some (y3.1, ())
  else
  some (false, ())
 else
 some (false, ())
def r22_Whole (x : Wrld × Unit) : Option (Bool × Unit) := r22_Whole_r x.1
def r22_Whole_sm : Sum := ⟨(.cons cWrld .nil), (.cons (.d .bool) .nil), r22_Whole⟩
def r22_Whole_c : Ctx := ⟨[(27, r20_Form_sm), (28, r09_Check_sm), (34, r21_Ready_sm)], [], []⟩
theorem r22_Whole_sem : SemOf Tryz.prog 63 r22_Whole_sm := semC (c := r22_Whole_c) Tryz.func63 (sc r20_Form_sem (sc r09_Check_sem (sc r21_Ready_sem an))) an an 8
abbrev r23_Todo_h0 : U := (.cons cI (.cons cI (.cons cMarker (.cons (.sl cVal) .nil))))
abbrev r23_Todo_o0 : U := (.cons cI (.cons cMarker (.cons (.sl cVal) .nil)))
abbrev r23_Todo_e0 : U := .nil
def r23_Todo_s0r (v4 : Int) (v5 : Int) (c0 : Marker) (r225 : List Val) : Option (SRes r23_Todo_h0 r23_Todo_o0 r23_Todo_e0) :=
 bif decide (0 ≤ v4) then
  bif decide (v4 < (c0.2.1.length : Int)) then
   bif decide (v5 < ((c0.2.1.getD v4.toNat (0, [], ())).2.1.length : Int)) then
    bif decide (0 ≤ v4) then
     bif decide (v4 < (c0.2.1.length : Int)) then
      bif decide (0 ≤ v5) then
       bif decide (v5 < ((c0.2.1.getD v4.toNat (0, [], ())).2.1.length : Int)) then
        bif decide ((r225.length + 1) * 16 ≤ 140737488355328) then
         some (.next (v4, wi64 (v5 + 1), c0, r225 ++ [(2, (c0.2.1.getD v4.toNat (0, [], ())).2.1.getD v5.toNat 0, ())], ()))
        else none
       else none
      else none
     else none
    else none
   else
   some (.fin (.out (v4, c0, r225, ())))
  else none
 else none
def r23_Todo_s0 (x : r23_Todo_h0.T) : Option (SRes r23_Todo_h0 r23_Todo_o0 r23_Todo_e0) := r23_Todo_s0r x.1 x.2.1 x.2.2.1 x.2.2.2.1
def r23_Todo_l0 (x : r23_Todo_h0.T) : Option (LRes r23_Todo_o0 r23_Todo_e0) := iterL r23_Todo_s0 9223372036854775808 x
abbrev r23_Todo_h1 : U := (.cons cI (.cons cMarker (.cons (.sl cVal) .nil)))
abbrev r23_Todo_o1 : U := (.cons cMarker (.cons (.sl cVal) .nil))
abbrev r23_Todo_e1 : U := .nil
def r23_Todo_s1r (v4 : Int) (c0 : Marker) (r128 : List Val) : Option (SRes r23_Todo_h1 r23_Todo_o1 r23_Todo_e1) :=
 bif decide (v4 < (c0.2.1.length : Int)) then
  (r23_Todo_l0 (v4, 0, c0, r128, ())).bind fun s1 => match s1 with
  | .out s1 =>
   some (.next (wi64 (s1.1 + 1), s1.2.1, s1.2.2.1, ()))
  | .ret s1 =>
   none
 else
 some (.fin (.out (c0, r128, ())))
def r23_Todo_s1 (x : r23_Todo_h1.T) : Option (SRes r23_Todo_h1 r23_Todo_o1 r23_Todo_e1) := r23_Todo_s1r x.1 x.2.1 x.2.2.1
def r23_Todo_l1 (x : r23_Todo_h1.T) : Option (LRes r23_Todo_o1 r23_Todo_e1) := iterL r23_Todo_s1 9223372036854775808 x
abbrev r23_Todo_h2 : U := (.cons cI (.cons cMarker (.cons (.sl cVal) .nil)))
abbrev r23_Todo_o2 : U := (.cons cMarker (.cons (.sl cVal) .nil))
abbrev r23_Todo_e2 : U := .nil
def r23_Todo_s2r (v6 : Int) (c0 : Marker) (r145 : List Val) : Option (SRes r23_Todo_h2 r23_Todo_o2 r23_Todo_e2) :=
 bif decide (v6 < (c0.1.2.1.length : Int)) then
  bif decide (0 ≤ v6) then
   bif decide (v6 < (c0.1.2.1.length : Int)) then
    bif decide ((r145.length + 1) * 16 ≤ 140737488355328) then
     some (.next (wi64 (v6 + 1), c0, r145 ++ [(2, c0.1.2.1.getD v6.toNat 0, ())], ()))
    else none
   else none
  else none
 else
 some (.fin (.out (c0, r145, ())))
def r23_Todo_s2 (x : r23_Todo_h2.T) : Option (SRes r23_Todo_h2 r23_Todo_o2 r23_Todo_e2) := r23_Todo_s2r x.1 x.2.1 x.2.2.1
def r23_Todo_l2 (x : r23_Todo_h2.T) : Option (LRes r23_Todo_o2 r23_Todo_e2) := iterL r23_Todo_s2 9223372036854775808 x
def r23_Todo_r (a0 : Marker) : Option ((List Val) × Unit) :=
 bif decide ((0 + a0.2.2.1.length) * 16 ≤ 140737488355328) then
  (r23_Todo_l1 (0, a0, a0.2.2.1, ())).bind fun s2 => match s2 with
  | .out s2 =>
   (r23_Todo_l2 (0, s2.1, s2.2.1, ())).bind fun s3 => match s3 with
   | .out s3 =>
    bif decide ((s3.2.1.length + 1) * 16 ≤ 140737488355328) then
     some (s3.2.1 ++ [(2, s3.1.2.2.2.1, ())], ())
    else none
   | .ret s3 =>
    none
  | .ret s2 =>
   none
 else none
def r23_Todo (x : Marker × Unit) : Option ((List Val) × Unit) := r23_Todo_r x.1
def r23_Todo_sm : Sum := ⟨(.cons cMarker .nil), (.cons (.own cVal) .nil), r23_Todo⟩
def r23_Todo_L0 : LoopSum := { hc := ⟨[], [1, 3, 4, 5], [(.tmp 3, cVal)], [], [0], [], 225⟩, h := ⟨[(1, (.pvar 0 [])), (3, (.row 225)), (4, (.d cI)), (5, (.d cI))], [(0, (.d cMarker))], [(225, cVal, true)], 226⟩, xid := 2, oc := ⟨[], [1, 3, 4], [(.tmp 3, cVal)], [], [0], [], 225⟩, o := ⟨[(1, (.pvar 0 [])), (3, (.row 225)), (4, (.d cI))], [(0, (.d cMarker))], [(225, cVal, true)], 226⟩, rc := ⟨[], [], [], [], [225], [], 225⟩, r := ⟨[], [], [], 225⟩, F := r23_Todo_l0 }
def r23_Todo_L1 : LoopSum := { hc := ⟨[], [1, 3, 4], [(.tmp 3, cVal)], [], [0], [], 128⟩, h := ⟨[(1, (.pvar 0 [])), (3, (.row 128)), (4, (.d cI))], [(0, (.d cMarker))], [(128, cVal, true)], 129⟩, xid := 0, oc := ⟨[], [1, 3], [(.tmp 3, cVal)], [], [0], [], 128⟩, o := ⟨[(1, (.pvar 0 [])), (3, (.row 128))], [(0, (.d cMarker))], [(128, cVal, true)], 129⟩, rc := ⟨[], [], [], [], [128], [], 128⟩, r := ⟨[], [], [], 128⟩, F := r23_Todo_l1 }
def r23_Todo_L2 : LoopSum := { hc := ⟨[], [1, 3, 6], [(.tmp 3, cVal)], [], [0], [], 145⟩, h := ⟨[(1, (.pvar 0 [])), (3, (.row 145)), (6, (.d cI))], [(0, (.d cMarker))], [(145, cVal, true)], 146⟩, xid := 4, oc := ⟨[], [1, 3], [(.tmp 3, cVal)], [], [0], [], 145⟩, o := ⟨[(1, (.pvar 0 [])), (3, (.row 145))], [(0, (.d cMarker))], [(145, cVal, true)], 146⟩, rc := ⟨[], [], [], [], [145], [], 145⟩, r := ⟨[], [], [], 145⟩, F := r23_Todo_l2 }
def r23_Todo_c : Ctx := ⟨[], [], [⟨8, 70, 0, 2, r23_Todo_L0⟩, ⟨8, 70, 0, 0, r23_Todo_L1⟩, ⟨8, 70, 0, 4, r23_Todo_L2⟩]⟩
theorem r23_Todo_sem : SemOf Tryz.prog 70 r23_Todo_sm := semC (c := r23_Todo_c) Tryz.func70 an an (ec (aeC [true, true, false, true, false, false, true, false, false, true, false, false] r23_Todo_s0 Tryz.func70) (ec (aeC [true, true, false, true, false, false] r23_Todo_s1 Tryz.func70) (ec (aeC [true, true, true, false, true, false, false] r23_Todo_s2 Tryz.func70) an))) 8
abbrev r23_Check_h0 : U := (.cons cI (.cons cWrld (.cons (.sl cVal) .nil)))
abbrev r23_Check_o0 : U := (.cons cWrld (.cons (.sl cVal) .nil))
abbrev r23_Check_e0 : U := (.cons cI .nil)
def r23_Check_s0r (v4 : Int) (c0 : Wrld) (r112 : List Val) : Option (SRes r23_Check_h0 r23_Check_o0 r23_Check_e0) :=
 bif decide (v4 < (r112.length : Int)) then
  bif decide (0 ≤ v4) then
   bif decide (v4 < (r112.length : Int)) then
    (r08_Get (c0.2.1, (r112.getD v4.toNat (0, 0, ())).2.1, ())).bind fun y3 =>
    bif decide (0 ≤ v4) then
     bif decide (v4 < (r112.length : Int)) then
      bif (r112.getD v4.toNat (0, 0, ())).1 == 2 then
       bif !y3.2.1 then
        some (.fin (.ret (2, ())))
       else
       some (.next (wi64 (v4 + 1), c0, r112, ()))
      else
      some (.next (wi64 (v4 + 1), c0, r112, ()))
     else none
    else none
   else none
  else none
 else
 some (.fin (.out (c0, r112, ())))
def r23_Check_s0 (x : r23_Check_h0.T) : Option (SRes r23_Check_h0 r23_Check_o0 r23_Check_e0) := r23_Check_s0r x.1 x.2.1 x.2.2.1
def r23_Check_l0 (x : r23_Check_h0.T) : Option (LRes r23_Check_o0 r23_Check_e0) := iterL r23_Check_s0 9223372036854775808 x
abbrev r23_Check_h1 : U := (.cons cI (.cons cWrld (.cons (.sl cI) .nil)))
abbrev r23_Check_o1 : U := .nil
abbrev r23_Check_e1 : U := (.cons cI .nil)
def r23_Check_s1r (v10 : Int) (c0 : Wrld) (r192 : List Int) : Option (SRes r23_Check_h1 r23_Check_o1 r23_Check_e1) :=
 bif decide (v10 < (r192.length : Int)) then
  bif decide (0 ≤ v10) then
   bif decide (v10 < (r192.length : Int)) then
    (r08_Black (c0.2.1, r192.getD v10.toNat 0, ())).bind fun y8 =>
    bif !y8.1 then
     some (.fin (.ret (3, ())))
    else
    some (.next (wi64 (v10 + 1), c0, r192, ()))
   else none
  else none
 else
 some (.fin (.out ()))
def r23_Check_s1 (x : r23_Check_h1.T) : Option (SRes r23_Check_h1 r23_Check_o1 r23_Check_e1) := r23_Check_s1r x.1 x.2.1 x.2.2.1
def r23_Check_l1 (x : r23_Check_h1.T) : Option (LRes r23_Check_o1 r23_Check_e1) := iterL r23_Check_s1 9223372036854775808 x
abbrev r23_Check_h2 : U := (.cons cI (.cons cWrld (.cons (.sl cI) (.cons (.sl cI) .nil))))
abbrev r23_Check_o2 : U := .nil
abbrev r23_Check_e2 : U := (.cons cI .nil)
def r23_Check_s2r (v12 : Int) (c0 : Wrld) (r272 : List Int) (r720 : List Int) : Option (SRes r23_Check_h2 r23_Check_o2 r23_Check_e2) :=
 bif decide (v12 < (r272.length : Int)) then
  bif decide (0 ≤ v12) then
   bif decide (v12 < (r272.length : Int)) then
    (r08_Black (c0.2.1, r272.getD v12.toNat 0, ())).bind fun y12 =>
    bif !y12.1 then
     bif decide (0 ≤ v12) then
      bif decide (v12 < (r272.length : Int)) then
       (r08_In (r720, r272.getD v12.toNat 0, ())).bind fun y13 =>
       bif !y13.1 then
        some (.fin (.ret (4, ())))
       else
       some (.next (wi64 (v12 + 1), c0, r272, r720, ()))
      else none
     else none
    else
    some (.next (wi64 (v12 + 1), c0, r272, r720, ()))
   else none
  else none
 else
 some (.fin (.out ()))
def r23_Check_s2 (x : r23_Check_h2.T) : Option (SRes r23_Check_h2 r23_Check_o2 r23_Check_e2) := r23_Check_s2r x.1 x.2.1 x.2.2.1 x.2.2.2.1
def r23_Check_l2 (x : r23_Check_h2.T) : Option (LRes r23_Check_o2 r23_Check_e2) := iterL r23_Check_s2 9223372036854775808 x
abbrev r23_Check_h3 : U := (.cons cI (.cons cWrld (.cons (.sl cI) (.cons (.sl cI) .nil))))
abbrev r23_Check_o3 : U := .nil
abbrev r23_Check_e3 : U := (.cons cI .nil)
def r23_Check_s3r (v13 : Int) (c0 : Wrld) (r192 : List Int) (r272 : List Int) : Option (SRes r23_Check_h3 r23_Check_o3 r23_Check_e3) :=
 bif decide (v13 < (r192.length : Int)) then
  bif decide (0 ≤ v13) then
   bif decide (v13 < (r192.length : Int)) then
    (r08_In (r272, r192.getD v13.toNat 0, ())).bind fun y15 =>
    bif y15.1 then
     bif decide (0 ≤ v13) then
      bif decide (v13 < (r192.length : Int)) then
       (r08_Black (c0.2.1, r192.getD v13.toNat 0, ())).bind fun y16 =>
       bif !y16.1 then
        some (.fin (.ret (5, ())))
       else
       some (.next (wi64 (v13 + 1), c0, r192, r272, ()))
      else none
     else none
    else
    bif decide (0 ≤ v13) then
     bif decide (v13 < (r192.length : Int)) then
      bif decide (0 ≤ (wi64 ((r192.getD v13.toNat 0).tdiv 32))) then
       bif decide ((wi64 ((r192.getD v13.toNat 0).tdiv 32)) < (c0.2.1.2.1.length : Int)) then
        bif (c0.2.1.2.1.getD (wi64 ((r192.getD v13.toNat 0).tdiv 32)).toNat (0, 0, 0, ())).1 == 1 then
         bif decide (0 ≤ v13) then
          bif decide (v13 < (r192.length : Int)) then
           (r08_Black (c0.2.1, r192.getD v13.toNat 0, ())).bind fun y17 =>
           bif !y17.1 then
            some (.fin (.ret (5, ())))
           else
           some (.next (wi64 (v13 + 1), c0, r192, r272, ()))
          else none
         else none
        else
        some (.next (wi64 (v13 + 1), c0, r192, r272, ()))
       else none
      else none
     else none
    else none
   else none
  else none
 else
 some (.fin (.out ()))
def r23_Check_s3 (x : r23_Check_h3.T) : Option (SRes r23_Check_h3 r23_Check_o3 r23_Check_e3) := r23_Check_s3r x.1 x.2.1 x.2.2.1 x.2.2.2.1
def r23_Check_l3 (x : r23_Check_h3.T) : Option (LRes r23_Check_o3 r23_Check_e3) := iterL r23_Check_s3 9223372036854775808 x
def r23_Check_r (a0 : Wrld) : Option (Int × Unit) :=
 (r22_Whole (a0, ())).bind fun y1 =>
 bif !y1.1 then
  some (1, ())
 else
 (r18_Held (a0.2.2.1, ())).bind fun y2 =>
 (r23_Check_l0 (0, a0, y2.1, ())).bind fun s4 => match s4 with
 | .out s4 =>
  (r08_List (s4.1.2.1, ())).bind fun y5 =>
  (r15_From (s4.1.2.1, s4.2.1, ())).bind fun y6 =>
  (r12_Dirty (s4.1.2.1, ())).bind fun y7 =>
  bif s4.1.2.2.2.2.1 == 0 then
   bif decide (y7.1 > 0) then
    some (3, ())
   else
   (r23_Check_l1 (0, s4.1, y5.1, ())).bind fun s9 => match s9 with
   | .out s9 =>
    some (0, ())
   | .ret s9 =>
    some (s9.1, ())
  else
  bif s4.1.2.2.2.2.1 == 1 then
   bif decide (y7.1 > 0) then
    some (4, ())
   else
   bif s4.1.2.2.2.1.2.2.2.2.2.2.1 then
    some (0, ())
   else
   bif s4.1.2.2.2.1.2.2.2.2.2.1 != (-1) then
    some (0, ())
   else
   (r23_Todo (s4.1.2.2.2.1, ())).bind fun y10 =>
   (r15_From (s4.1.2.1, y10.1, ())).bind fun y11 =>
   (r23_Check_l2 (0, s4.1, y6.1, y11.1, ())).bind fun s14 => match s14 with
   | .out s14 =>
    some (0, ())
   | .ret s14 =>
    some (s14.1, ())
  else
  (r23_Check_l3 (0, s4.1, y5.1, y6.1, ())).bind fun s18 => match s18 with
  | .out s18 =>
   some (0, ())
  | .ret s18 =>
   some (s18.1, ())
 | .ret s4 =>
  some (s4.1, ())
def r23_Check (x : Wrld × Unit) : Option (Int × Unit) := r23_Check_r x.1
def r23_Check_sm : Sum := ⟨(.cons cWrld .nil), (.cons (.d cI) .nil), r23_Check⟩
def r23_Check_L0 : LoopSum := { hc := ⟨[], [1, 3, 4], [], [], [0], [112], 160⟩, h := ⟨[(1, (.pvar 0 [])), (3, (.row 112)), (4, (.d cI))], [(0, (.d cWrld))], [(112, cVal, true)], 160⟩, xid := 0, oc := ⟨[], [1, 3], [], [], [0], [112], 160⟩, o := ⟨[(1, (.pvar 0 [])), (3, (.row 112))], [(0, (.d cWrld))], [(112, cVal, true)], 160⟩, rc := ⟨[], [2], [], [], [], [], 160⟩, r := ⟨[(2, (.d cI))], [], [], 160⟩, F := r23_Check_l0 }
def r23_Check_L1 : LoopSum := { hc := ⟨[], [1, 7, 10], [], [], [0], [192], 464⟩, h := ⟨[(1, (.pvar 0 [])), (7, (.row 192)), (10, (.d cI))], [(0, (.d cWrld))], [(192, cI, true)], 464⟩, xid := 2, oc := ⟨[], [], [], [], [], [], 464⟩, o := ⟨[], [], [], 464⟩, rc := ⟨[], [2], [], [], [], [], 464⟩, r := ⟨[(2, (.d cI))], [], [], 464⟩, F := r23_Check_l1 }
def r23_Check_L2 : LoopSum := { hc := ⟨[], [1, 8, 11, 12], [], [], [0], [272, 720], 768⟩, h := ⟨[(1, (.pvar 0 [])), (8, (.row 272)), (11, (.row 720)), (12, (.d cI))], [(0, (.d cWrld))], [(272, cI, true), (720, cI, true)], 768⟩, xid := 4, oc := ⟨[], [], [], [], [], [], 768⟩, o := ⟨[], [], [], 768⟩, rc := ⟨[], [2], [], [], [], [], 768⟩, r := ⟨[(2, (.d cI))], [], [], 768⟩, F := r23_Check_l2 }
def r23_Check_L3 : LoopSum := { hc := ⟨[], [1, 7, 8, 13], [], [], [0], [192, 272], 496⟩, h := ⟨[(1, (.pvar 0 [])), (7, (.row 192)), (8, (.row 272)), (13, (.d cI))], [(0, (.d cWrld))], [(192, cI, true), (272, cI, true)], 496⟩, xid := 6, oc := ⟨[], [], [], [], [], [], 496⟩, o := ⟨[], [], [], 496⟩, rc := ⟨[], [2], [], [], [], [], 496⟩, r := ⟨[(2, (.d cI))], [], [], 496⟩, F := r23_Check_l3 }
def r23_Check_c : Ctx := ⟨[(63, r22_Whole_sm), (64, r18_Held_sm), (65, r08_Get_sm), (66, r08_List_sm), (67, r15_From_sm), (68, r12_Dirty_sm), (69, r08_Black_sm), (70, r23_Todo_sm), (71, r08_In_sm)], [], [⟨8, 20, 0, 0, r23_Check_L0⟩, ⟨8, 20, 0, 2, r23_Check_L1⟩, ⟨8, 20, 0, 4, r23_Check_L2⟩, ⟨8, 20, 0, 6, r23_Check_L3⟩]⟩
theorem r23_Check_sem : SemOf Tryz.prog 20 r23_Check_sm := semC (c := r23_Check_c) Tryz.func20 (sc r22_Whole_sem (sc r18_Held_sem (sc r08_Get_sem (sc r08_List_sem (sc r15_From_sem (sc r12_Dirty_sem (sc r08_Black_sem (sc r23_Todo_sem (sc r08_In_sem an))))))))) an (ec (aeC [true, true, true, false, true, false, false] r23_Check_s0 Tryz.func20) (ec (aeC [true, true, true, true, true, true, true, false, true, false, true, false, true, false, false] r23_Check_s1 Tryz.func20) (ec (aeC [true, true, true, true, true, true, true, true, false, true, false, true, true, true, false, true, false, false] r23_Check_s2 Tryz.func20) (ec (aeC [true, true, true, true, true, true, true, true, true, false, true, false, false] r23_Check_s3 Tryz.func20) an)))) 8
def w23_AuditChecks_r (a0 : Wrld) : Option (Bool × Unit) :=
 (w23_awake ()).bind fun y1 =>
 bif !y1.1 then
  (w23_awake ()).bind fun y2 =>
  some (y2.1, ())
 else
 (r20_Few (a0, ())).bind fun y3 =>
 bif !y3.1 then
  (w23_awake ()).bind fun y4 =>
  some (y4.1, ())
 else
 (audit_Check (a0, ())).bind fun y5 =>
 (r23_Check (a0, ())).bind fun y6 =>
 bif y5.1 == y6.1 then
  (audit_Ok (a0, ())).bind fun y7 =>
  (r23_Check (a0, ())).bind fun y8 =>
  some (y7.1 == (y8.1 == 0), ())
 else
 some (false, ())
def w23_AuditChecks (x : Wrld × Unit) : Option (Bool × Unit) := w23_AuditChecks_r x.1
def w23_AuditChecks_sm : Sum := ⟨(.cons cWrld .nil), (.cons (.d .bool) .nil), w23_AuditChecks⟩
def w23_AuditChecks_c : Ctx := ⟨[(17, w23_awake_sm), (18, r20_Few_sm), (19, audit_Check_sm), (20, r23_Check_sm), (21, audit_Ok_sm)], [], []⟩
theorem w23_AuditChecks_sem : SemOf Tryz.prog 5 w23_AuditChecks_sm := semC (c := w23_AuditChecks_c) Tryz.func5 (sc w23_awake_sem (sc r20_Few_sem (sc audit_Check_sem (sc r23_Check_sem (sc audit_Ok_sem an))))) an an 8
end
end Go.Proofs.YtkjpakaidjpjgaaGreatDoor.Den
