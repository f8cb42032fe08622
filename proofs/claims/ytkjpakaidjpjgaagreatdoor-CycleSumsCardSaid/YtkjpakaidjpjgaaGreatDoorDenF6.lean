/- What functions come to. Printed by a program of this session. -/
import Derived.Test.YtkjpakaidjpjgaaGreatDoorDenF5
namespace Go.Proofs.YtkjpakaidjpjgaaGreatDoor.Den
open Go
set_option maxRecDepth 100000
set_option linter.unusedVariables false
noncomputable section
def r08_Black_r (a0 : Heap) (a1 : Int) : Option (Bool × Unit) :=
 (r08_Get (a0, a1, ())).bind fun y1 =>
 bif y1.2.1 then
  some (y1.1.2.1 == a0.2.2.1, ())
 else
 some (false, ())
def r08_Black (x : Heap × Int × Unit) : Option (Bool × Unit) := r08_Black_r x.1 x.2.1
def r08_Black_sm : Sum := ⟨(.cons cHeap (.cons cI .nil)), (.cons (.d .bool) .nil), r08_Black⟩
def r08_Black_c : Ctx := ⟨[(65, r08_Get_sm)], [], []⟩
theorem r08_Black_sem : SemOf Tryz.prog 69 r08_Black_sm := semC (c := r08_Black_c) Tryz.func69 (sc r08_Get_sem an) an an 8
abbrev r08_In_h0 : U := (.cons (.sl cI) cVal)
abbrev r08_In_o0 : U := .nil
abbrev r08_In_e0 : U := (.cons .bool .nil)
def r08_In_s0r (v0 : List Int) (v1 : Int) (v5 : Int) : Option (SRes r08_In_h0 r08_In_o0 r08_In_e0) :=
 bif decide (v5 < (v0.length : Int)) then
  bif decide (0 ≤ v5) then
   bif decide (v5 < (v0.length : Int)) then
    bif (v0.getD v5.toNat 0) == v1 then
     some (.fin (.ret (true, ())))
    else
    some (.next (v0, v1, wi64 (v5 + 1), ()))
   else none
  else none
 else
 some (.fin (.out ()))
def r08_In_s0 (x : r08_In_h0.T) : Option (SRes r08_In_h0 r08_In_o0 r08_In_e0) := r08_In_s0r x.1 x.2.1 x.2.2.1
def r08_In_l0 (x : r08_In_h0.T) : Option (LRes r08_In_o0 r08_In_e0) := iterL r08_In_s0 9223372036854775808 x
def r08_In_r (a0 : List Int) (a1 : Int) : Option (Bool × Unit) :=
 (r08_In_l0 (a0, a1, 0, ())).bind fun s1 => match s1 with
 | .out s1 =>
  some (false, ())
 | .ret s1 =>
  some (s1.1, ())
def r08_In (x : (List Int) × Int × Unit) : Option (Bool × Unit) := r08_In_r x.1 x.2.1
def r08_In_sm : Sum := ⟨(.cons (.sl cI) (.cons cI .nil)), (.cons (.d .bool) .nil), r08_In⟩
def r08_In_L0 : LoopSum := { hc := ⟨[], [0, 1, 5], [], [], [], [], 32⟩, h := ⟨[(0, (.d (.sl cI))), (1, (.d cI)), (5, (.d cI))], [], [], 32⟩, xid := 0, oc := ⟨[], [], [], [], [], [], 32⟩, o := ⟨[], [], [], 32⟩, rc := ⟨[], [4], [], [], [], [], 32⟩, r := ⟨[(4, (.d .bool))], [], [], 32⟩, F := r08_In_l0 }
def r08_In_c : Ctx := ⟨[], [], [⟨8, 71, 0, 0, r08_In_L0⟩]⟩
theorem r08_In_sem : SemOf Tryz.prog 71 r08_In_sm := semC (c := r08_In_c) Tryz.func71 an an (ec (aeC [true, false, true, false, false] r08_In_s0 Tryz.func71) an) 8
abbrev r09_nought_h0 : U := (.cons cI (.cons cI (.cons cI (.cons cHeap .nil))))
abbrev r09_nought_o0 : U := .nil
abbrev r09_nought_e0 : U := (.cons .bool .nil)
def r09_nought_s0r (v1 : Int) (v2 : Int) (v7 : Int) (c0 : Heap) : Option (SRes r09_nought_h0 r09_nought_o0 r09_nought_e0) :=
 bif decide (v7 < v2) then
  bif decide (0 ≤ (wi64 (v1 + v7))) then
   bif decide ((wi64 (v1 + v7)) < (c0.1.length : Int)) then
    bif (c0.1.getD (wi64 (v1 + v7)).toNat 0) != 0 then
     some (.fin (.ret (false, ())))
    else
    some (.next (v1, v2, wi64 (v7 + 1), c0, ()))
   else none
  else none
 else
 some (.fin (.out ()))
def r09_nought_s0 (x : r09_nought_h0.T) : Option (SRes r09_nought_h0 r09_nought_o0 r09_nought_e0) := r09_nought_s0r x.1 x.2.1 x.2.2.1 x.2.2.2.1
def r09_nought_l0 (x : r09_nought_h0.T) : Option (LRes r09_nought_o0 r09_nought_e0) := iterL r09_nought_s0 9223372036854775808 x
def r09_nought_r (a0 : Heap) (a1 : Int) (a2 : Int) : Option (Bool × Unit) :=
 (r09_nought_l0 (a1, a2, 0, a0, ())).bind fun s1 => match s1 with
 | .out s1 =>
  some (true, ())
 | .ret s1 =>
  some (s1.1, ())
def r09_nought (x : Heap × Val) : Option (Bool × Unit) := r09_nought_r x.1 x.2.1 x.2.2.1
def r09_nought_sm : Sum := ⟨(.cons cHeap cVal), (.cons (.d .bool) .nil), r09_nought⟩
def r09_nought_L0 : LoopSum := { hc := ⟨[], [1, 2, 3, 7], [], [], [0], [], 48⟩, h := ⟨[(1, (.d cI)), (2, (.d cI)), (3, (.pvar 0 [])), (7, (.d cI))], [(0, (.d cHeap))], [], 48⟩, xid := 0, oc := ⟨[], [], [], [], [], [], 48⟩, o := ⟨[], [], [], 48⟩, rc := ⟨[], [6], [], [], [], [], 48⟩, r := ⟨[(6, (.d .bool))], [], [], 48⟩, F := r09_nought_l0 }
def r09_nought_c : Ctx := ⟨[], [], [⟨8, 81, 0, 0, r09_nought_L0⟩]⟩
theorem r09_nought_sem : SemOf Tryz.prog 81 r09_nought_sm := semC (c := r09_nought_c) Tryz.func81 an an (ec (aeC [true, false, true, false, false] r09_nought_s0 Tryz.func81) an) 8
abbrev r08_Refs_h0 : U := (.cons cI (.cons cI (.cons cHeap (.cons cHdr (.cons (.sl cI) .nil)))))
abbrev r08_Refs_o0 : U := (.cons (.sl cI) .nil)
abbrev r08_Refs_e0 : U := .nil
def r08_Refs_s0r (v1 : Int) (v8 : Int) (c0 : Heap) (c144 : Hdr) (r208 : List Int) : Option (SRes r08_Refs_h0 r08_Refs_o0 r08_Refs_e0) :=
 bif decide (v8 < c144.2.2.2.1) then
  (r08_Field (c0, v1, v8, ())).bind fun y2 =>
  bif y2.1.1 == 2 then
   bif decide ((r208.length + 1) * 8 ≤ 140737488355328) then
    some (.next (v1, wi64 (v8 + 1), c0, c144, r208 ++ [y2.1.2.1], ()))
   else none
  else
  some (.next (v1, wi64 (v8 + 1), c0, c144, r208, ()))
 else
 some (.fin (.out (r208, ())))
def r08_Refs_s0 (x : r08_Refs_h0.T) : Option (SRes r08_Refs_h0 r08_Refs_o0 r08_Refs_e0) := r08_Refs_s0r x.1 x.2.1 x.2.2.1 x.2.2.2.1 x.2.2.2.2.1
def r08_Refs_l0 (x : r08_Refs_h0.T) : Option (LRes r08_Refs_o0 r08_Refs_e0) := iterL r08_Refs_s0 9223372036854775808 x
def r08_Refs_r (a0 : Heap) (a1 : Int) : Option ((List Int) × Unit) :=
 (r08_Get (a0, a1, ())).bind fun y1 =>
 (r08_Refs_l0 (a1, 0, a0, y1.1, [], ())).bind fun s3 => match s3 with
 | .out s3 =>
  some (s3.1, ())
 | .ret s3 =>
  none
def r08_Refs (x : Heap × Int × Unit) : Option ((List Int) × Unit) := r08_Refs_r x.1 x.2.1
def r08_Refs_sm : Sum := ⟨(.cons cHeap (.cons cI .nil)), (.cons (.own cI) .nil), r08_Refs⟩
def r08_Refs_L0 : LoopSum := { hc := ⟨[], [1, 2, 5, 6, 8], [(.tmp 5, cI)], [], [0, 144], [], 208⟩, h := ⟨[(1, (.d cI)), (2, (.pvar 0 [])), (5, (.row 208)), (6, (.pvar 144 [])), (8, (.d cI))], [(0, (.d cHeap)), (144, (.d cHdr))], [(208, cI, true)], 209⟩, xid := 0, oc := ⟨[], [5], [(.tmp 5, cI)], [], [], [], 208⟩, o := ⟨[(5, (.row 208))], [], [(208, cI, true)], 209⟩, rc := ⟨[], [], [], [], [208], [], 208⟩, r := ⟨[], [], [], 208⟩, F := r08_Refs_l0 }
def r08_Refs_c : Ctx := ⟨[(65, r08_Get_sm), (109, r08_Field_sm)], [], [⟨8, 85, 0, 0, r08_Refs_L0⟩]⟩
theorem r08_Refs_sem : SemOf Tryz.prog 85 r08_Refs_sm := semC (c := r08_Refs_c) Tryz.func85 (sc r08_Get_sem (sc r08_Field_sem an)) an (ec (aeC [true, true, true, false, true, false, false] r08_Refs_s0 Tryz.func85) an) 8
abbrev r09_Check_h0 : U := (.cons cI (.cons cI (.cons cI (.cons cI (.cons cHeap (.cons cSpan .nil))))))
abbrev r09_Check_o0 : U := (.cons cI (.cons cI (.cons cHeap .nil)))
abbrev r09_Check_e0 : U := (.cons cI .nil)
def r09_Check_s0r (v3 : Int) (v4 : Int) (v6 : Int) (v7 : Int) (c0 : Heap) (c272 : Span) : Option (SRes r09_Check_h0 r09_Check_o0 r09_Check_e0) :=
 (r04_Blocks (c272.2.1, ())).bind fun y4 =>
 bif decide (v7 < y4.1) then
  (r03_Has (c272.2.2.1, v7, ())).bind fun y5 =>
  bif y5.1 then
   (r09_nought (c0, wi64 ((wi64 (32 * v4)) + (wi64 (v7 * v6))), v6, ())).bind fun y6 =>
   bif !y6.1 then
    some (.fin (.ret (2, ())))
   else
   some (.next (v3, v4, v6, wi64 (v7 + 1), c0, c272, ()))
  else
  (r08_Get (c0, wi64 ((wi64 (32 * v4)) + (wi64 (v7 * v6))), ())).bind fun y7 =>
  bif !y7.2.1 then
   some (.fin (.ret (2, ())))
  else
  bif y7.1.2.2.1 != c272.2.1 then
   some (.fin (.ret (2, ())))
  else
  (r09_nought (c0, wi64 ((wi64 ((wi64 ((wi64 (32 * v4)) + (wi64 (v7 * v6)))) + 1)) + y7.1.2.2.2.1), wi64 ((wi64 (v6 - 1)) - y7.1.2.2.2.1), ())).bind fun y8 =>
  bif !y8.1 then
   some (.next (3, v4, v6, wi64 (v7 + 1), c0, c272, ()))
  else
  some (.next (v3, v4, v6, wi64 (v7 + 1), c0, c272, ()))
 else
 some (.fin (.out (v3, v4, c0, ())))
def r09_Check_s0 (x : r09_Check_h0.T) : Option (SRes r09_Check_h0 r09_Check_o0 r09_Check_e0) := r09_Check_s0r x.1 x.2.1 x.2.2.1 x.2.2.2.1 x.2.2.2.2.1 x.2.2.2.2.2.1
def r09_Check_l0 (x : r09_Check_h0.T) : Option (LRes r09_Check_o0 r09_Check_e0) := iterL r09_Check_s0 9223372036854775808 x
abbrev r09_Check_h1 : U := (.cons cI (.cons cI (.cons cHeap .nil)))
abbrev r09_Check_o1 : U := (.cons cI (.cons cHeap .nil))
abbrev r09_Check_e1 : U := (.cons cI .nil)
def r09_Check_s1r (v3 : Int) (v4 : Int) (c0 : Heap) : Option (SRes r09_Check_h1 r09_Check_o1 r09_Check_e1) :=
 bif decide (v4 < (c0.2.1.length : Int)) then
  bif decide (0 ≤ v4) then
   bif decide (v4 < (c0.2.1.length : Int)) then
    bif (c0.2.1.getD v4.toNat (0, 0, 0, ())).1 == 0 then
     (r09_nought (c0, wi64 (32 * v4), 32, ())).bind fun y2 =>
     bif !y2.1 then
      some (.fin (.ret (2, ())))
     else
     some (.next (v3, wi64 (v4 + 1), c0, ()))
    else
    (r04_Words ((c0.2.1.getD v4.toNat (0, 0, 0, ())).2.1, ())).bind fun y3 =>
    (r09_Check_l0 (v3, v4, y3.1, 0, c0, c0.2.1.getD v4.toNat (0, 0, 0, ()), ())).bind fun s9 => match s9 with
    | .out s9 =>
     some (.next (s9.1, wi64 (s9.2.1 + 1), s9.2.2.1, ()))
    | .ret s9 =>
     some (.fin (.ret (s9.1, ())))
   else none
  else none
 else
 some (.fin (.out (v3, c0, ())))
def r09_Check_s1 (x : r09_Check_h1.T) : Option (SRes r09_Check_h1 r09_Check_o1 r09_Check_e1) := r09_Check_s1r x.1 x.2.1 x.2.2.1
def r09_Check_l1 (x : r09_Check_h1.T) : Option (LRes r09_Check_o1 r09_Check_e1) := iterL r09_Check_s1 9223372036854775808 x
abbrev r09_Check_h2 : U := (.cons cI (.cons cI (.cons cHeap (.cons (.sl cI) (.cons (.sl cI) .nil)))))
abbrev r09_Check_o2 : U := (.cons cI (.cons cHeap (.cons (.sl cI) .nil)))
abbrev r09_Check_e2 : U := (.cons cI .nil)
def r09_Check_s2r (v12 : Int) (v14 : Int) (c0 : Heap) (r160 : List Int) (r672 : List Int) : Option (SRes r09_Check_h2 r09_Check_o2 r09_Check_e2) :=
 bif decide (v14 < (r672.length : Int)) then
  bif decide (0 ≤ v14) then
   bif decide (v14 < (r672.length : Int)) then
    (r08_In (r160, r672.getD v14.toNat 0, ())).bind fun y14 =>
    bif !y14.1 then
     some (.fin (.ret (4, ())))
    else
    some (.next (v12, wi64 (v14 + 1), c0, r160, r672, ()))
   else none
  else none
 else
 some (.fin (.out (v12, c0, r160, ())))
def r09_Check_s2 (x : r09_Check_h2.T) : Option (SRes r09_Check_h2 r09_Check_o2 r09_Check_e2) := r09_Check_s2r x.1 x.2.1 x.2.2.1 x.2.2.2.1 x.2.2.2.2.1
def r09_Check_l2 (x : r09_Check_h2.T) : Option (LRes r09_Check_o2 r09_Check_e2) := iterL r09_Check_s2 9223372036854775808 x
abbrev r09_Check_h3 : U := (.cons cI (.cons cHeap (.cons (.sl cI) .nil)))
abbrev r09_Check_o3 : U := .nil
abbrev r09_Check_e3 : U := (.cons cI .nil)
def r09_Check_s3r (v12 : Int) (c0 : Heap) (r160 : List Int) : Option (SRes r09_Check_h3 r09_Check_o3 r09_Check_e3) :=
 bif decide (v12 < (r160.length : Int)) then
  bif decide (0 ≤ v12) then
   bif decide (v12 < (r160.length : Int)) then
    bif decide (0 ≤ (wi64 ((r160.getD v12.toNat 0).tdiv 32))) then
     bif decide ((wi64 ((r160.getD v12.toNat 0).tdiv 32)) < (c0.2.1.length : Int)) then
      bif (c0.2.1.getD (wi64 ((r160.getD v12.toNat 0).tdiv 32)).toNat (0, 0, 0, ())).1 != 1 then
       bif decide (0 ≤ v12) then
        bif decide (v12 < (r160.length : Int)) then
         (r08_Black (c0, r160.getD v12.toNat 0, ())).bind fun y12 =>
         bif !y12.1 then
          some (.next (wi64 (v12 + 1), c0, r160, ()))
         else
         bif decide (0 ≤ v12) then
          bif decide (v12 < (r160.length : Int)) then
           (r08_Refs (c0, r160.getD v12.toNat 0, ())).bind fun y13 =>
           (r09_Check_l2 (v12, 0, c0, r160, y13.1, ())).bind fun s15 => match s15 with
           | .out s15 =>
            some (.next (wi64 (s15.1 + 1), s15.2.1, s15.2.2.1, ()))
           | .ret s15 =>
            some (.fin (.ret (s15.1, ())))
          else none
         else none
        else none
       else none
      else
      bif decide (0 ≤ v12) then
       bif decide (v12 < (r160.length : Int)) then
        (r08_Refs (c0, r160.getD v12.toNat 0, ())).bind fun y16 =>
        (r09_Check_l2 (v12, 0, c0, r160, y16.1, ())).bind fun s17 => match s17 with
        | .out s17 =>
         some (.next (wi64 (s17.1 + 1), s17.2.1, s17.2.2.1, ()))
        | .ret s17 =>
         some (.fin (.ret (s17.1, ())))
       else none
      else none
     else none
    else none
   else none
  else none
 else
 some (.fin (.out ()))
def r09_Check_s3 (x : r09_Check_h3.T) : Option (SRes r09_Check_h3 r09_Check_o3 r09_Check_e3) := r09_Check_s3r x.1 x.2.1 x.2.2.1
def r09_Check_l3 (x : r09_Check_h3.T) : Option (LRes r09_Check_o3 r09_Check_e3) := iterL r09_Check_s3 9223372036854775808 x
def r09_Check_r (a0 : Heap) : Option (Int × Unit) :=
 (r07_Form (a0, ())).bind fun y1 =>
 bif !y1.1 then
  some (1, ())
 else
 (r09_Check_l1 (0, 0, a0, ())).bind fun s10 => match s10 with
 | .out s10 =>
  bif s10.1 != 0 then
   some (s10.1, ())
  else
  (r08_List (s10.2.1, ())).bind fun y11 =>
  (r09_Check_l3 (0, s10.2.1, y11.1, ())).bind fun s18 => match s18 with
  | .out s18 =>
   some (0, ())
  | .ret s18 =>
   some (s18.1, ())
 | .ret s10 =>
  some (s10.1, ())
def r09_Check (x : Heap × Unit) : Option (Int × Unit) := r09_Check_r x.1
def r09_Check_sm : Sum := ⟨(.cons cHeap .nil), (.cons (.d cI) .nil), r09_Check⟩
def r09_Check_L0 : LoopSum := { hc := ⟨[], [1, 3, 4, 5, 6, 7], [], [], [0, 272], [], 432⟩, h := ⟨[(1, (.pvar 0 [])), (3, (.d cI)), (4, (.d cI)), (5, (.pvar 272 [])), (6, (.d cI)), (7, (.d cI))], [(0, (.d cHeap)), (272, (.d cSpan))], [], 432⟩, xid := 2, oc := ⟨[], [1, 3, 4], [], [], [0], [], 432⟩, o := ⟨[(1, (.pvar 0 [])), (3, (.d cI)), (4, (.d cI))], [(0, (.d cHeap))], [], 432⟩, rc := ⟨[], [2], [], [], [], [], 432⟩, r := ⟨[(2, (.d cI))], [], [], 432⟩, F := r09_Check_l0 }
def r09_Check_L1 : LoopSum := { hc := ⟨[], [1, 3, 4], [], [], [0], [], 112⟩, h := ⟨[(1, (.pvar 0 [])), (3, (.d cI)), (4, (.d cI))], [(0, (.d cHeap))], [], 112⟩, xid := 0, oc := ⟨[], [1, 3], [], [], [0], [], 112⟩, o := ⟨[(1, (.pvar 0 [])), (3, (.d cI))], [(0, (.d cHeap))], [], 112⟩, rc := ⟨[], [2], [], [], [], [], 112⟩, r := ⟨[(2, (.d cI))], [], [], 112⟩, F := r09_Check_l1 }
def r09_Check_L2 : LoopSum := { hc := ⟨[], [1, 11, 12, 13, 14], [], [], [0], [160, 672], 720⟩, h := ⟨[(1, (.pvar 0 [])), (11, (.row 160)), (12, (.d cI)), (13, (.row 672)), (14, (.d cI))], [(0, (.d cHeap))], [(160, cI, true), (672, cI, true)], 720⟩, xid := 6, oc := ⟨[], [1, 11, 12], [], [], [0], [160], 720⟩, o := ⟨[(1, (.pvar 0 [])), (11, (.row 160)), (12, (.d cI))], [(0, (.d cHeap))], [(160, cI, true)], 720⟩, rc := ⟨[], [2], [], [], [], [], 720⟩, r := ⟨[(2, (.d cI))], [], [], 720⟩, F := r09_Check_l2 }
def r09_Check_L3 : LoopSum := { hc := ⟨[], [1, 11, 12], [], [], [0], [160], 208⟩, h := ⟨[(1, (.pvar 0 [])), (11, (.row 160)), (12, (.d cI))], [(0, (.d cHeap))], [(160, cI, true)], 208⟩, xid := 4, oc := ⟨[], [], [], [], [], [], 208⟩, o := ⟨[], [], [], 208⟩, rc := ⟨[], [2], [], [], [], [], 208⟩, r := ⟨[(2, (.d cI))], [], [], 208⟩, F := r09_Check_l3 }
def r09_Check_c : Ctx := ⟨[(65, r08_Get_sm), (66, r08_List_sm), (69, r08_Black_sm), (71, r08_In_sm), (78, r07_Form_sm), (81, r09_nought_sm), (82, r04_Words_sm), (83, r04_Blocks_sm), (84, r03_Has_sm), (85, r08_Refs_sm)], [], [⟨8, 28, 0, 2, r09_Check_L0⟩, ⟨8, 28, 0, 0, r09_Check_L1⟩, ⟨8, 28, 0, 6, r09_Check_L2⟩, ⟨8, 28, 0, 4, r09_Check_L3⟩]⟩
theorem r09_Check_sem : SemOf Tryz.prog 28 r09_Check_sm := semC (c := r09_Check_c) Tryz.func28 (sc r08_Get_sem (sc r08_List_sem (sc r08_Black_sem (sc r08_In_sem (sc r07_Form_sem (sc r09_nought_sem (sc r04_Words_sem (sc r04_Blocks_sem (sc r03_Has_sem (sc r08_Refs_sem an)))))))))) an (ec (aeC [true, true, true, false, true, false, false, true, false, false, true, true, true, true, false, false] r09_Check_s0 Tryz.func28) (ec (aeC [true, true, true, false, true, false, false] r09_Check_s1 Tryz.func28) (ec (aeC [true, true, true, true, true, true, false, true, false, false, true, false, false, true, true, true, false, false] r09_Check_s2 Tryz.func28) (ec (aeC [true, true, true, true, true, true, false, true, false, false] r09_Check_s3 Tryz.func28) an)))) 8
abbrev r07_Used_h0 : U := (.cons cI (.cons cI (.cons cHeap .nil)))
abbrev r07_Used_o0 : U := (.cons cI .nil)
abbrev r07_Used_e0 : U := .nil
def r07_Used_s0r (v3 : Int) (v4 : Int) (c0 : Heap) : Option (SRes r07_Used_h0 r07_Used_o0 r07_Used_e0) :=
 bif decide (v4 < (c0.2.1.length : Int)) then
  bif decide (0 ≤ v4) then
   bif decide (v4 < (c0.2.1.length : Int)) then
    bif (c0.2.1.getD v4.toNat (0, 0, 0, ())).1 != 0 then
     (r04_Blocks ((c0.2.1.getD v4.toNat (0, 0, 0, ())).2.1, ())).bind fun y1 =>
     (r06_Free (c0.2.1.getD v4.toNat (0, 0, 0, ()), ())).bind fun y2 =>
     (r04_Words ((c0.2.1.getD v4.toNat (0, 0, 0, ())).2.1, ())).bind fun y3 =>
     some (.next (wi64 (v3 + (wi64 ((wi64 (y1.1 - y2.1)) * y3.1))), wi64 (v4 + 1), c0, ()))
    else
    some (.next (v3, wi64 (v4 + 1), c0, ()))
   else none
  else none
 else
 some (.fin (.out (v3, ())))
def r07_Used_s0 (x : r07_Used_h0.T) : Option (SRes r07_Used_h0 r07_Used_o0 r07_Used_e0) := r07_Used_s0r x.1 x.2.1 x.2.2.1
def r07_Used_l0 (x : r07_Used_h0.T) : Option (LRes r07_Used_o0 r07_Used_e0) := iterL r07_Used_s0 9223372036854775808 x
def r07_Used_r (a0 : Heap) : Option (Int × Unit) :=
 (r07_Used_l0 (0, 0, a0, ())).bind fun s4 => match s4 with
 | .out s4 =>
  some (s4.1, ())
 | .ret s4 =>
  none
def r07_Used (x : Heap × Unit) : Option (Int × Unit) := r07_Used_r x.1
def r07_Used_sm : Sum := ⟨(.cons cHeap .nil), (.cons (.d cI) .nil), r07_Used⟩
def r07_Used_L0 : LoopSum := { hc := ⟨[], [1, 3, 4], [], [], [0], [], 64⟩, h := ⟨[(1, (.pvar 0 [])), (3, (.d cI)), (4, (.d cI))], [(0, (.d cHeap))], [], 64⟩, xid := 0, oc := ⟨[], [3], [], [], [], [], 64⟩, o := ⟨[(3, (.d cI))], [], [], 64⟩, rc := ⟨[], [], [], [], [64], [], 64⟩, r := ⟨[], [], [], 64⟩, F := r07_Used_l0 }
def r07_Used_c : Ctx := ⟨[(82, r04_Words_sm), (83, r04_Blocks_sm), (91, r06_Free_sm)], [], [⟨8, 30, 0, 0, r07_Used_L0⟩]⟩
theorem r07_Used_sem : SemOf Tryz.prog 30 r07_Used_sm := semC (c := r07_Used_c) Tryz.func30 (sc r04_Words_sem (sc r04_Blocks_sem (sc r06_Free_sem an))) an (ec (aeC [true, true, false, true, false, false] r07_Used_s0 Tryz.func30) an) 8
abbrev w20_CycleSums_h0 : U := (.cons cI (.cons cI (.cons cI (.cons cWrld (.cons cRep .nil)))))
abbrev w20_CycleSums_o0 : U := (.cons cI (.cons cI (.cons cWrld (.cons cRep .nil))))
abbrev w20_CycleSums_e0 : U := .nil
def w20_CycleSums_s0r (v4 : Int) (v5 : Int) (v6 : Int) (c0 : Wrld) (c352 : Rep) : Option (SRes w20_CycleSums_h0 w20_CycleSums_o0 w20_CycleSums_e0) :=
 bif decide (v6 < (c0.2.1.2.1.length : Int)) then
  bif decide (0 ≤ v6) then
   bif decide (v6 < (c0.2.1.2.1.length : Int)) then
    bif (c0.2.1.2.1.getD v6.toNat (0, 0, 0, ())).1 == 2 then
     some (.next (v4, wi64 (v5 + 1), wi64 (v6 + 1), c0, c352, ()))
    else
    some (.next (v4, v5, wi64 (v6 + 1), c0, c352, ()))
   else none
  else none
 else
 some (.fin (.out (v4, v5, c0, c352, ())))
def w20_CycleSums_s0 (x : w20_CycleSums_h0.T) : Option (SRes w20_CycleSums_h0 w20_CycleSums_o0 w20_CycleSums_e0) := w20_CycleSums_s0r x.1 x.2.1 x.2.2.1 x.2.2.2.1 x.2.2.2.2.1
def w20_CycleSums_l0 (x : w20_CycleSums_h0.T) : Option (LRes w20_CycleSums_o0 w20_CycleSums_e0) := iterL w20_CycleSums_s0 9223372036854775808 x
abbrev w20_CycleSums_h1 : U := (.cons cI (.cons cI (.cons cWrld (.cons cRep .nil))))
abbrev w20_CycleSums_o1 : U := (.cons cI (.cons cWrld (.cons cRep .nil)))
abbrev w20_CycleSums_e1 : U := (.cons .bool .nil)
def w20_CycleSums_s1r (v4 : Int) (v7 : Int) (c0 : Wrld) (c352 : Rep) : Option (SRes w20_CycleSums_h1 w20_CycleSums_o1 w20_CycleSums_e1) :=
 bif decide (v7 ≤ 16) then
  (cycle_Marker (c0, ())).bind fun y11 =>
  bif y11.2.1 == 1 then
   some (.fin (.ret (true, ())))
  else
  bif y11.2.1 == 0 then
   some (.fin (.ret (true, ())))
  else
  bif y11.2.1 == 4 then
   some (.fin (.out (v4, y11.1, c352, ())))
  else
  some (.next (v4, wi64 (v7 + 1), y11.1, c352, ()))
 else
 some (.fin (.out (v4, c0, c352, ())))
def w20_CycleSums_s1 (x : w20_CycleSums_h1.T) : Option (SRes w20_CycleSums_h1 w20_CycleSums_o1 w20_CycleSums_e1) := w20_CycleSums_s1r x.1 x.2.1 x.2.2.1 x.2.2.2.1
def w20_CycleSums_l1 (x : w20_CycleSums_h1.T) : Option (LRes w20_CycleSums_o1 w20_CycleSums_e1) := iterL w20_CycleSums_s1 9223372036854775808 x
abbrev w20_CycleSums_h2 : U := (.cons cI (.cons cI (.cons cWrld (.cons cRep .nil))))
abbrev w20_CycleSums_o2 : U := (.cons cI (.cons cWrld (.cons cRep .nil)))
abbrev w20_CycleSums_e2 : U := .nil
def w20_CycleSums_s2r (v4 : Int) (v10 : Int) (c0 : Wrld) (c352 : Rep) : Option (SRes w20_CycleSums_h2 w20_CycleSums_o2 w20_CycleSums_e2) :=
 bif decide (v10 ≤ 16) then
  bif c0.2.2.2.2.1 == 2 then
   (cycle_Sweeper (c0, ())).bind fun y13 =>
   some (.next (v4, wi64 (v10 + 1), y13.1, c352, ()))
  else
  some (.fin (.out (v4, c0, c352, ())))
 else
 some (.fin (.out (v4, c0, c352, ())))
def w20_CycleSums_s2 (x : w20_CycleSums_h2.T) : Option (SRes w20_CycleSums_h2 w20_CycleSums_o2 w20_CycleSums_e2) := w20_CycleSums_s2r x.1 x.2.1 x.2.2.1 x.2.2.2.1
def w20_CycleSums_l2 (x : w20_CycleSums_h2.T) : Option (LRes w20_CycleSums_o2 w20_CycleSums_e2) := iterL w20_CycleSums_s2 9223372036854775808 x
def w20_CycleSums_r (a0 : Wrld) : Option (Bool × Unit) :=
 (w20_awake ()).bind fun y1 =>
 bif !y1.1 then
  (w20_awake ()).bind fun y2 =>
  some (y2.1, ())
 else
 (w20_fits (a0, ())).bind fun y3 =>
 bif !y3.1 then
  (w20_awake ()).bind fun y4 =>
  some (y4.1, ())
 else
 (r09_Check (a0.2.1, ())).bind fun y5 =>
 bif y5.1 != 0 then
  (w20_awake ()).bind fun y6 =>
  some (y6.1, ())
 else
 bif a0.2.2.2.2.1 != 1 then
  (w20_awake ()).bind fun y7 =>
  some (y7.1, ())
 else
 (cycle_Tell (a0, ())).bind fun y8 =>
 bif (wi64 ((wi64 (y8.1.2.1 + y8.1.2.2.1)) + y8.1.2.2.2.2.1)) != (a0.2.1.1.length : Int) then
  some (false, ())
 else
 bif decide (y8.1.2.2.1 < 0) then
  some (false, ())
 else
 bif decide (y8.1.2.2.2.2.1 < 0) then
  some (false, ())
 else
 bif decide (y8.1.2.1 < 0) then
  some (false, ())
 else
 bif y8.1.1 != a0.2.2.2.2.2.2.1 then
  some (false, ())
 else
 (r07_Used (a0.2.1, ())).bind fun y9 =>
 (w20_CycleSums_l0 (y9.1, 0, 0, a0, (y8.1.1, y8.1.2.1, y8.1.2.2.1, y8.1.2.2.2.1, y8.1.2.2.2.2.1, ()), ())).bind fun s10 => match s10 with
 | .out s10 =>
  bif decide (s10.2.1 > 0) then
   some (true, ())
  else
  (w20_CycleSums_l1 (s10.1, 0, s10.2.2.1, s10.2.2.2.1, ())).bind fun s12 => match s12 with
  | .out s12 =>
   bif s12.2.1.2.2.2.2.1 != 2 then
    some (false, ())
   else
   (w20_CycleSums_l2 (s12.1, 0, s12.2.1, s12.2.2.1, ())).bind fun s14 => match s14 with
   | .out s14 =>
    bif s14.2.1.2.2.2.2.1 == 0 then
     (r07_Used (s14.2.1.2.1, ())).bind fun y15 =>
     bif (wi64 (s14.1 - y15.1)) == s14.2.2.1.2.2.2.2.1 then
      (r07_Used (s14.2.1.2.1, ())).bind fun y16 =>
      some (y16.1 == s14.2.2.1.2.2.1, ())
     else
     some (false, ())
    else
    some (false, ())
   | .ret s14 =>
    none
  | .ret s12 =>
   some (s12.1, ())
 | .ret s10 =>
  none
def w20_CycleSums (x : Wrld × Unit) : Option (Bool × Unit) := w20_CycleSums_r x.1
def w20_CycleSums_sm : Sum := ⟨(.cons cWrld .nil), (.cons (.d .bool) .nil), w20_CycleSums⟩
def w20_CycleSums_L0 : LoopSum := { hc := ⟨[], [1, 3, 4, 5, 6], [], [], [0, 352], [], 1040⟩, h := ⟨[(1, (.pvar 0 [])), (3, (.pvar 352 [])), (4, (.d cI)), (5, (.d cI)), (6, (.d cI))], [(0, (.d cWrld)), (352, (.d cRep))], [], 1040⟩, xid := 0, oc := ⟨[], [1, 3, 4, 5], [], [], [0, 352], [], 1040⟩, o := ⟨[(1, (.pvar 0 [])), (3, (.pvar 352 [])), (4, (.d cI)), (5, (.d cI))], [(0, (.d cWrld)), (352, (.d cRep))], [], 1040⟩, rc := ⟨[], [], [], [], [1040], [], 1040⟩, r := ⟨[], [], [], 1040⟩, F := w20_CycleSums_l0 }
def w20_CycleSums_L1 : LoopSum := { hc := ⟨[], [1, 3, 4, 7], [], [], [0, 352], [], 1088⟩, h := ⟨[(1, (.pvar 0 [])), (3, (.pvar 352 [])), (4, (.d cI)), (7, (.d cI))], [(0, (.d cWrld)), (352, (.d cRep))], [], 1088⟩, xid := 2, oc := ⟨[], [1, 3, 4], [], [], [0, 352], [], 1088⟩, o := ⟨[(1, (.pvar 0 [])), (3, (.pvar 352 [])), (4, (.d cI))], [(0, (.d cWrld)), (352, (.d cRep))], [], 1088⟩, rc := ⟨[], [2], [], [], [], [], 1088⟩, r := ⟨[(2, (.d .bool))], [], [], 1088⟩, F := w20_CycleSums_l1 }
def w20_CycleSums_L2 : LoopSum := { hc := ⟨[], [1, 3, 4, 10], [], [], [0, 352], [], 1152⟩, h := ⟨[(1, (.pvar 0 [])), (3, (.pvar 352 [])), (4, (.d cI)), (10, (.d cI))], [(0, (.d cWrld)), (352, (.d cRep))], [], 1152⟩, xid := 4, oc := ⟨[], [1, 3, 4], [], [], [0, 352], [], 1152⟩, o := ⟨[(1, (.pvar 0 [])), (3, (.pvar 352 [])), (4, (.d cI))], [(0, (.d cWrld)), (352, (.d cRep))], [], 1152⟩, rc := ⟨[], [], [], [], [1152], [], 1152⟩, r := ⟨[], [], [], 1152⟩, F := w20_CycleSums_l2 }
def w20_CycleSums_c : Ctx := ⟨[(22, w20_awake_sm), (23, w20_fits_sm), (26, cycle_Marker_sm), (28, r09_Check_sm), (29, cycle_Tell_sm), (30, r07_Used_sm), (31, cycle_Sweeper_sm)], [], [⟨8, 7, 0, 0, w20_CycleSums_L0⟩, ⟨8, 7, 0, 2, w20_CycleSums_L1⟩, ⟨8, 7, 0, 4, w20_CycleSums_L2⟩]⟩
theorem w20_CycleSums_sem : SemOf Tryz.prog 7 w20_CycleSums_sm := semC (c := w20_CycleSums_c) Tryz.func7 (sc w20_awake_sem (sc w20_fits_sem (sc cycle_Marker_sem (sc r09_Check_sem (sc cycle_Tell_sem (sc r07_Used_sem (sc cycle_Sweeper_sem an))))))) an (ec (aeC [true, true, true, true, true, true, false, true, false, false] w20_CycleSums_s0 Tryz.func7) (ec (aeC [true, true, true, true, true, true, true, true, false, true, false, false] w20_CycleSums_s1 Tryz.func7) (ec (aeC [true, true, true, true, true, true, true, true, true, true, false, true, false, false] w20_CycleSums_s2 Tryz.func7) an))) 8
end
end Go.Proofs.YtkjpakaidjpjgaaGreatDoor.Den
