/- What functions come to. Printed by a program of this session. -/
import Derived.Test.YtkjpakaidjpjgaaGreatDoorDenF6
namespace Go.Proofs.YtkjpakaidjpjgaaGreatDoor.Den
open Go
set_option maxRecDepth 100000
set_option linter.unusedVariables false
noncomputable section
abbrev r15_Words_h0 : U := (.cons (.sl cI) (.cons cI (.cons cI (.cons cHeap .nil))))
abbrev r15_Words_o0 : U := (.cons cI .nil)
abbrev r15_Words_e0 : U := .nil
def r15_Words_s0r (v1 : List Int) (v5 : Int) (v6 : Int) (c0 : Heap) : Option (SRes r15_Words_h0 r15_Words_o0 r15_Words_e0) :=
 bif decide (v6 < (v1.length : Int)) then
  bif decide (0 ≤ v6) then
   bif decide (v6 < (v1.length : Int)) then
    (r08_Get (c0, v1.getD v6.toNat 0, ())).bind fun y1 =>
    bif y1.2.1 then
     bif decide (0 ≤ v6) then
      bif decide (v6 ≤ (v1.length : Int)) then
       bif decide (0 ≤ v6) then
        bif decide (v6 < (v1.length : Int)) then
         (r08_In ((v1.drop 0).take (v6.toNat - 0), v1.getD v6.toNat 0, ())).bind fun y2 =>
         bif !y2.1 then
          (r04_Words (y1.1.2.2.1, ())).bind fun y3 =>
          some (.next (v1, wi64 (v5 + y3.1), wi64 (v6 + 1), c0, ()))
         else
         some (.next (v1, v5, wi64 (v6 + 1), c0, ()))
        else none
       else none
      else none
     else none
    else
    some (.next (v1, v5, wi64 (v6 + 1), c0, ()))
   else none
  else none
 else
 some (.fin (.out (v5, ())))
def r15_Words_s0 (x : r15_Words_h0.T) : Option (SRes r15_Words_h0 r15_Words_o0 r15_Words_e0) := r15_Words_s0r x.1 x.2.1 x.2.2.1 x.2.2.2.1
def r15_Words_l0 (x : r15_Words_h0.T) : Option (LRes r15_Words_o0 r15_Words_e0) := iterL r15_Words_s0 9223372036854775808 x
def r15_Words_r (a0 : Heap) (a1 : List Int) : Option (Int × Unit) :=
 (r15_Words_l0 (a1, 0, 0, a0, ())).bind fun s4 => match s4 with
 | .out s4 =>
  some (s4.1, ())
 | .ret s4 =>
  none
def r15_Words (x : Heap × (List Int) × Unit) : Option (Int × Unit) := r15_Words_r x.1 x.2.1
def r15_Words_sm : Sum := ⟨(.cons cHeap (.cons (.sl cI) .nil)), (.cons (.d cI) .nil), r15_Words⟩
def r15_Words_L0 : LoopSum := { hc := ⟨[], [1, 2, 5, 6], [], [], [0], [], 64⟩, h := ⟨[(1, (.d (.sl cI))), (2, (.pvar 0 [])), (5, (.d cI)), (6, (.d cI))], [(0, (.d cHeap))], [], 64⟩, xid := 0, oc := ⟨[], [5], [], [], [], [], 64⟩, o := ⟨[(5, (.d cI))], [], [], 64⟩, rc := ⟨[], [], [], [], [64], [], 64⟩, r := ⟨[], [], [], 64⟩, F := r15_Words_l0 }
def r15_Words_c : Ctx := ⟨[(65, r08_Get_sm), (71, r08_In_sm), (82, r04_Words_sm)], [], [⟨8, 306, 0, 0, r15_Words_L0⟩]⟩
theorem r15_Words_sem : SemOf Tryz.prog 306 r15_Words_sm := semC (c := r15_Words_c) Tryz.func306 (sc r08_Get_sem (sc r08_In_sem (sc r04_Words_sem an))) an (ec (aeC [true, true, false, true, false, false] r15_Words_s0 Tryz.func306) an) 8
abbrev r15_Black_h0 : U := (.cons cI (.cons cHeap (.cons (.sl cI) (.cons (.sl cI) .nil))))
abbrev r15_Black_o0 : U := (.cons (.sl cI) .nil)
abbrev r15_Black_e0 : U := .nil
def r15_Black_s0r (v5 : Int) (c0 : Heap) (r64 : List Int) (r112 : List Int) : Option (SRes r15_Black_h0 r15_Black_o0 r15_Black_e0) :=
 bif decide (v5 < (r64.length : Int)) then
  bif decide (0 ≤ v5) then
   bif decide (v5 < (r64.length : Int)) then
    (r08_Black (c0, r64.getD v5.toNat 0, ())).bind fun y2 =>
    bif y2.1 then
     bif decide (0 ≤ v5) then
      bif decide (v5 < (r64.length : Int)) then
       bif decide ((r112.length + 1) * 8 ≤ 140737488355328) then
        some (.next (wi64 (v5 + 1), c0, r64, r112 ++ [r64.getD v5.toNat 0], ()))
       else none
      else none
     else none
    else
    some (.next (wi64 (v5 + 1), c0, r64, r112, ()))
   else none
  else none
 else
 some (.fin (.out (r112, ())))
def r15_Black_s0 (x : r15_Black_h0.T) : Option (SRes r15_Black_h0 r15_Black_o0 r15_Black_e0) := r15_Black_s0r x.1 x.2.1 x.2.2.1 x.2.2.2.1
def r15_Black_l0 (x : r15_Black_h0.T) : Option (LRes r15_Black_o0 r15_Black_e0) := iterL r15_Black_s0 9223372036854775808 x
def r15_Black_r (a0 : Heap) : Option ((List Int) × Unit) :=
 (r08_List (a0, ())).bind fun y1 =>
 (r15_Black_l0 (0, a0, y1.1, [], ())).bind fun s3 => match s3 with
 | .out s3 =>
  some (s3.1, ())
 | .ret s3 =>
  none
def r15_Black (x : Heap × Unit) : Option ((List Int) × Unit) := r15_Black_r x.1
def r15_Black_sm : Sum := ⟨(.cons cHeap .nil), (.cons (.own cI) .nil), r15_Black⟩
def r15_Black_L0 : LoopSum := { hc := ⟨[], [1, 3, 4, 5], [(.tmp 3, cI)], [], [0], [64], 112⟩, h := ⟨[(1, (.pvar 0 [])), (3, (.row 112)), (4, (.row 64)), (5, (.d cI))], [(0, (.d cHeap))], [(64, cI, true), (112, cI, true)], 113⟩, xid := 0, oc := ⟨[], [3], [(.tmp 3, cI)], [], [], [], 112⟩, o := ⟨[(3, (.row 112))], [], [(112, cI, true)], 113⟩, rc := ⟨[], [], [], [], [112], [], 112⟩, r := ⟨[], [], [], 112⟩, F := r15_Black_l0 }
def r15_Black_c : Ctx := ⟨[(66, r08_List_sm), (69, r08_Black_sm)], [], [⟨8, 307, 0, 0, r15_Black_L0⟩]⟩
theorem r15_Black_sem : SemOf Tryz.prog 307 r15_Black_sm := semC (c := r15_Black_c) Tryz.func307 (sc r08_List_sem (sc r08_Black_sem an)) an (ec (aeC [true, true, true, false, true, false, false] r15_Black_s0 Tryz.func307) an) 8
def r20_Tell_r (a0 : Wrld) : Option (Rep × Unit) :=
 (r07_Used (a0.2.1, ())).bind fun y1 =>
 (r15_Black (a0.2.1, ())).bind fun y2 =>
 (r15_Words (a0.2.1, y2.1, ())).bind fun y3 =>
 (r18_Held (a0.2.2.1, ())).bind fun y4 =>
 (r15_From (a0.2.1, y4.1, ())).bind fun y5 =>
 (r15_Words (a0.2.1, y5.1, ())).bind fun y6 =>
 some ((a0.2.2.2.2.2.2.1, wi64 ((a0.2.1.1.length : Int) - y1.1), y3.1, wi64 (y3.1 - y6.1), wi64 (y1.1 - y3.1), ()), ())
def r20_Tell (x : Wrld × Unit) : Option (Rep × Unit) := r20_Tell_r x.1
def r20_Tell_sm : Sum := ⟨(.cons cWrld .nil), (.cons (.cons (.d cI) (.cons (.d cI) (.cons (.d cI) (.cons (.d cI) (.cons (.d cI) .nil))))) .nil), r20_Tell⟩
def r20_Tell_c : Ctx := ⟨[(30, r07_Used_sm), (64, r18_Held_sm), (67, r15_From_sm), (306, r15_Words_sm), (307, r15_Black_sm)], [], []⟩
theorem r20_Tell_sem : SemOf Tryz.prog 258 r20_Tell_sm := semC (c := r20_Tell_c) Tryz.func258 (sc r07_Used_sem (sc r18_Held_sem (sc r15_From_sem (sc r15_Words_sem (sc r15_Black_sem an))))) an an 8
abbrev r12_Begin_h0 : U := (.cons cI (.cons (.cons .bool .nil) (.cons (.cons .bool .nil) (.cons (.sl (.int .u64)) (.cons (.sl cSpan) .nil)))))
abbrev r12_Begin_o0 : U := (.cons (.cons .bool .nil) (.cons (.cons .bool .nil) (.cons (.sl (.int .u64)) (.cons (.sl cSpan) .nil))))
abbrev r12_Begin_e0 : U := .nil
def r12_Begin_s0r (v4 : Int) (c16 : Bool × Unit) (c64 : Bool × Unit) (r48 : List Int) (r49 : List Span) : Option (SRes r12_Begin_h0 r12_Begin_o0 r12_Begin_e0) :=
 bif decide (v4 < (r49.length : Int)) then
  bif decide (0 ≤ v4) then
   bif decide (v4 < (r49.length : Int)) then
    bif (r49.getD v4.toNat (0, 0, 0, ())).1 == 1 then
     bif decide (0 ≤ v4) then
      bif decide (v4 < (r49.length : Int)) then
       some (.next (wi64 (v4 + 1), c16, c64, r48, r49.set v4.toNat (2, (r49.getD v4.toNat (0, 0, 0, ())).2), ()))
      else none
     else none
    else
    some (.next (wi64 (v4 + 1), c16, c64, r48, r49, ()))
   else none
  else none
 else
 some (.fin (.out (c16, c64, r48, r49, ())))
def r12_Begin_s0 (x : r12_Begin_h0.T) : Option (SRes r12_Begin_h0 r12_Begin_o0 r12_Begin_e0) := r12_Begin_s0r x.1 x.2.1 x.2.2.1 x.2.2.2.1 x.2.2.2.2.1
def r12_Begin_l0 (x : r12_Begin_h0.T) : Option (LRes r12_Begin_o0 r12_Begin_e0) := iterL r12_Begin_s0 9223372036854775808 x
def r12_Begin_r (a0 : Heap) : Option (Heap × Unit) :=
 (r12_copied (a0, ())).bind fun y1 =>
 (r12_Begin_l0 (0, (false, ()), (y1.1.2.2.1, ()), y1.1.1, y1.1.2.1, ())).bind fun s2 => match s2 with
 | .out s2 =>
  some ((s2.2.2.1, s2.2.2.2.1, s2.2.1), ())
 | .ret s2 =>
  none
def r12_Begin (x : Heap × Unit) : Option (Heap × Unit) := r12_Begin_r x.1
def r12_Begin_sm : Sum := ⟨(.cons cHeap .nil), (.cons (.cons (.own (.int .u64)) (.cons (.own cSpan) (.d (.cons .bool .nil)))) .nil), r12_Begin⟩
def r12_Begin_L0 : LoopSum := { hc := ⟨[], [2, 3, 4], [], [], [16, 64], [48, 49], 112⟩, h := ⟨[(2, (.pvar 16 [])), (3, (.pvar 64 [])), (4, (.d cI))], [(16, (.cons .nilsl (.cons .nilsl (.d (.cons .bool .nil))))), (64, (.cons (.row 48) (.cons (.row 49) (.d (.cons .bool .nil)))))], [(48, (.int .u64), true), (49, cSpan, true)], 112⟩, xid := 0, oc := ⟨[], [2, 3], [], [], [16, 64], [48, 49], 112⟩, o := ⟨[(2, (.pvar 16 [])), (3, (.pvar 64 []))], [(16, (.cons .nilsl (.cons .nilsl (.d (.cons .bool .nil))))), (64, (.cons (.row 48) (.cons (.row 49) (.d (.cons .bool .nil)))))], [(48, (.int .u64), true), (49, cSpan, true)], 112⟩, rc := ⟨[], [], [], [], [112], [], 112⟩, r := ⟨[], [], [], 112⟩, F := r12_Begin_l0 }
def r12_Begin_c : Ctx := ⟨[(196, r12_copied_sm)], [], [⟨8, 259, 0, 0, r12_Begin_L0⟩]⟩
theorem r12_Begin_sem : SemOf Tryz.prog 259 r12_Begin_sm := semC (c := r12_Begin_c) Tryz.func259 (sc r12_copied_sem an) an (ec (aeC [true, true, false, true, false, false] r12_Begin_s0 Tryz.func259) an) 8
def r20_Marker_r (a0 : Wrld) : Option (Wrld × Int × Unit) :=
 bif a0.2.2.2.2.1 == 2 then
  (r20_Sweeper (a0, ())).bind fun y1 =>
  some (y1.1, y1.2.1, ())
 else
 bif a0.2.2.2.2.1 == 0 then
  bif !a0.2.2.2.2.2.1 then
   some (a0, 0, ())
  else
  (r18_Begin (a0.1, a0.2.1, a0.2.2.1, ())).bind fun y2 =>
  some ((a0.1, (y2.1.1, y2.1.2.1, y2.1.2.2.1, ()), a0.2.2.1, ((y2.2.1.1.1, y2.2.1.1.2.1, y2.2.1.1.2.2), y2.2.1.2.1, y2.2.1.2.2.1, y2.2.1.2.2.2), 1, false, wi64 (a0.2.2.2.2.2.2.1 + 1), a0.2.2.2.2.2.2.2), 3, ())
 else
 (r17_Step (a0.2.1, a0.2.2.2.1, ())).bind fun y3 =>
 bif !y3.2.2.1 then
  some ((a0.1, y3.1, a0.2.2.1, y3.2.1, a0.2.2.2.2), 1, ())
 else
 bif decide ((0 + a0.2.2.2.2.2.2.2.1.length) * 40 ≤ 140737488355328) then
  (r20_Tell (a0, ())).bind fun y4 =>
  bif decide ((a0.2.2.2.2.2.2.2.1.length + 1) * 40 ≤ 140737488355328) then
   (r12_Begin (a0.2.1, ())).bind fun y5 =>
   some ((a0.1, (y5.1.1, y5.1.2.1, y5.1.2.2), a0.2.2.1, ((0, [], ()), [], [], 0, 0, 0, false, ()), 2, a0.2.2.2.2.2.1, a0.2.2.2.2.2.2.1, a0.2.2.2.2.2.2.2.1 ++ [(y4.1.1, y4.1.2.1, y4.1.2.2.1, y4.1.2.2.2.1, y4.1.2.2.2.2.1, ())], a0.2.2.2.2.2.2.2.2), 4, ())
  else none
 else none
def r20_Marker (x : Wrld × Unit) : Option (Wrld × Int × Unit) := r20_Marker_r x.1
def r20_Marker_sm : Sum := ⟨(.cons cWrld .nil), (.cons (.d cWrld) (.cons (.d cI) .nil)), r20_Marker⟩
def r20_Marker_c : Ctx := ⟨[(51, r20_Sweeper_sm), (256, r18_Begin_sm), (257, r17_Step_sm), (258, r20_Tell_sm), (259, r12_Begin_sm)], [], []⟩
theorem r20_Marker_sem : SemOf Tryz.prog 197 r20_Marker_sm := semC (c := r20_Marker_c) Tryz.func197 (sc r20_Sweeper_sem (sc r18_Begin_sem (sc r17_Step_sem (sc r20_Tell_sem (sc r12_Begin_sem an))))) an an 8
def r22_Pick_r (a0 : Wrld) (a1 : Int × (Int × Int × Val) × Unit) : Option (Wrld × (Int × Int × Int × Val × Unit) × Unit) :=
 bif decide (a1.1 ≥ 0) then
  bif decide (a1.1 < (a0.2.2.1.length : Int)) then
   (r21_Turn (a0, a1.1, a1.2.1, ())).bind fun y1 =>
   some (y1.1, (y1.2.1.1, y1.2.1.2.1, y1.2.1.2.2.1, y1.2.1.2.2.2.1, ()), ())
  else
  bif a1.1 == (-1) then
   (r20_Marker (a0, ())).bind fun y2 =>
   some (y2.1, ((-1), y2.2.1, 0, (0, 0, ()), ()), ())
  else
  bif a1.1 == (-2) then
   (r20_Sweeper (a0, ())).bind fun y3 =>
   some (y3.1, ((-2), y3.2.1, 0, (0, 0, ()), ()), ())
  else
  some (a0, (a1.1, 0, 1, (0, 0, ()), ()), ())
 else
 bif a1.1 == (-1) then
  (r20_Marker (a0, ())).bind fun y4 =>
  some (y4.1, ((-1), y4.2.1, 0, (0, 0, ()), ()), ())
 else
 bif a1.1 == (-2) then
  (r20_Sweeper (a0, ())).bind fun y5 =>
  some (y5.1, ((-2), y5.2.1, 0, (0, 0, ()), ()), ())
 else
 some (a0, (a1.1, 0, 1, (0, 0, ()), ()), ())
def r22_Pick (x : Wrld × (Int × (Int × Int × Val) × Unit) × Unit) : Option (Wrld × (Int × Int × Int × Val × Unit) × Unit) := r22_Pick_r x.1 x.2.1
def r22_Pick_sm : Sum := ⟨(.cons cWrld (.cons (.cons cI (.cons (.cons cI (.cons cI cVal)) .nil)) .nil)), (.cons (.d cWrld) (.cons (.cons (.d cI) (.cons (.d cI) (.cons (.d cI) (.cons (.d cVal) .nil)))) .nil)), r22_Pick⟩
def r22_Pick_c : Ctx := ⟨[(15, r21_Turn_sm), (51, r20_Sweeper_sm), (197, r20_Marker_sm)], [], []⟩
theorem r22_Pick_sem : SemOf Tryz.prog 122 r22_Pick_sm := semC (c := r22_Pick_c) Tryz.func122 (sc r21_Turn_sem (sc r20_Sweeper_sem (sc r20_Marker_sem an))) an an 8
abbrev r22_Run_h0 : U := (.cons (.sl (.cons cI (.cons (.cons cI (.cons cI cVal)) .nil))) (.cons cI (.cons cWrld (.cons cRep (.cons (.cons .bool .nil) (.cons cI (.cons .nil (.cons (.cons cI (.cons cI (.cons cI (.cons .bool .nil)))) (.cons cI (.cons .bool (.cons cI (.cons .nil (.cons (.sl (.cons cI (.cons cI (.cons cI (.cons cVal .nil))))) .nil)))))))))))))
abbrev r22_Run_o0 : U := (.cons cWrld (.cons cRep (.cons (.cons .bool .nil) (.cons cI (.cons .nil (.cons (.cons cI (.cons cI (.cons cI (.cons .bool .nil)))) (.cons cI (.cons .bool (.cons cI (.cons .nil (.cons (.sl (.cons cI (.cons cI (.cons cI (.cons cVal .nil))))) .nil)))))))))))
abbrev r22_Run_e0 : U := .nil
def r22_Run_s0r (v1 : List (Int × (Int × Int × Val) × Unit)) (v7 : Int) (c0 : Wrld) (c16_0 : Rep) (c16_1 : Bool × Unit) (c16_2 : Int) (c16_3 : Unit) (c16_4 : Int × Int × Int × Bool × Unit) (c16_5 : Int) (c16_6 : Bool) (c16_7 : Int) (c16_8 : Unit) (r80 : List (Int × Int × Int × Val × Unit)) : Option (SRes r22_Run_h0 r22_Run_o0 r22_Run_e0) :=
 bif decide (v7 < (v1.length : Int)) then
  bif decide (0 ≤ v7) then
   bif decide (v7 < (v1.length : Int)) then
    (r22_Pick (c0, v1.getD v7.toNat (0, (0, 0, 0, 0, ()), ()), ())).bind fun y1 =>
    bif decide ((r80.length + 1) * 40 ≤ 140737488355328) then
     some (.next (v1, wi64 (v7 + 1), y1.1, c16_0, c16_1, c16_2, c16_3, c16_4, c16_5, c16_6, c16_7, c16_8, r80 ++ [(y1.2.1.1, y1.2.1.2.1, y1.2.1.2.2.1, y1.2.1.2.2.2.1, ())], ()))
    else none
   else none
  else none
 else
 some (.fin (.out (c0, c16_0, c16_1, c16_2, c16_3, c16_4, c16_5, c16_6, c16_7, c16_8, r80, ())))
def r22_Run_s0 (x : r22_Run_h0.T) : Option (SRes r22_Run_h0 r22_Run_o0 r22_Run_e0) := r22_Run_s0r x.1 x.2.1 x.2.2.1 x.2.2.2.1 x.2.2.2.2.1 x.2.2.2.2.2.1 x.2.2.2.2.2.2.1 x.2.2.2.2.2.2.2.1 x.2.2.2.2.2.2.2.2.1 x.2.2.2.2.2.2.2.2.2.1 x.2.2.2.2.2.2.2.2.2.2.1 x.2.2.2.2.2.2.2.2.2.2.2.1 x.2.2.2.2.2.2.2.2.2.2.2.2.1
def r22_Run_l0 (x : r22_Run_h0.T) : Option (LRes r22_Run_o0 r22_Run_e0) := iterL r22_Run_s0 9223372036854775808 x
def r22_Run_r (a0 : Wrld) (a1 : List (Int × (Int × Int × Val) × Unit)) : Option (Wrld × (List (Int × Int × Int × Val × Unit)) × Unit) :=
 (r22_Run_l0 (a1, 0, a0, (0, 0, 0, 0, 0, ()), (false, ()), 0, (), (0, 0, 0, false, ()), 0, false, 0, (), [], ())).bind fun s2 => match s2 with
 | .out s2 =>
  some (s2.1, s2.2.2.2.2.2.2.2.2.2.2.1, ())
 | .ret s2 =>
  none
def r22_Run (x : Wrld × (List (Int × (Int × Int × Val) × Unit)) × Unit) : Option (Wrld × (List (Int × Int × Int × Val × Unit)) × Unit) := r22_Run_r x.1 x.2.1
def r22_Run_sm : Sum := ⟨(.cons cWrld (.cons (.sl (.cons cI (.cons (.cons cI (.cons cI cVal)) .nil))) .nil)), (.cons (.d cWrld) (.cons (.own (.cons cI (.cons cI (.cons cI (.cons cVal .nil))))) .nil)), r22_Run⟩
def r22_Run_L0 : LoopSum := { hc := ⟨[], [1, 2, 4, 6, 7], [(.tmp 6, (.cons cI (.cons cI (.cons cI (.cons cVal .nil)))))], [], [0, 16], [], 80⟩, h := ⟨[(1, (.d (.sl (.cons cI (.cons (.cons cI (.cons cI cVal)) .nil))))), (2, (.pvar 0 [])), (4, (.pvar 16 [])), (6, (.row 80)), (7, (.d cI))], [(0, (.d cWrld)), (16, (.cons (.d cRep) (.cons (.cons .nilsl (.cons .nilsl (.d (.cons .bool .nil)))) (.cons .nilsl (.cons (.cons (.cons (.d cI) (.cons .nilsl (.d .nil))) (.cons .nilsl (.cons .nilsl (.d (.cons cI (.cons cI (.cons cI (.cons .bool .nil)))))))) (.cons (.d cI) (.cons (.d .bool) (.cons (.d cI) (.cons .nilsl (.d .nil))))))))))], [(80, (.cons cI (.cons cI (.cons cI (.cons cVal .nil)))), true)], 81⟩, xid := 0, oc := ⟨[], [2, 4, 6], [(.tmp 6, (.cons cI (.cons cI (.cons cI (.cons cVal .nil)))))], [], [0, 16], [], 80⟩, o := ⟨[(2, (.pvar 0 [])), (4, (.pvar 16 [])), (6, (.row 80))], [(0, (.d cWrld)), (16, (.cons (.d cRep) (.cons (.cons .nilsl (.cons .nilsl (.d (.cons .bool .nil)))) (.cons .nilsl (.cons (.cons (.cons (.d cI) (.cons .nilsl (.d .nil))) (.cons .nilsl (.cons .nilsl (.d (.cons cI (.cons cI (.cons cI (.cons .bool .nil)))))))) (.cons (.d cI) (.cons (.d .bool) (.cons (.d cI) (.cons .nilsl (.d .nil))))))))))], [(80, (.cons cI (.cons cI (.cons cI (.cons cVal .nil)))), true)], 81⟩, rc := ⟨[], [], [], [], [80], [], 80⟩, r := ⟨[], [], [], 80⟩, F := r22_Run_l0 }
def r22_Run_c : Ctx := ⟨[(122, r22_Pick_sm)], [], [⟨8, 55, 0, 0, r22_Run_L0⟩]⟩
theorem r22_Run_sem : SemOf Tryz.prog 55 r22_Run_sm := semC (c := r22_Run_c) Tryz.func55 (sc r22_Pick_sem an) an (ec (aeC [true, true, false, true, false, false] r22_Run_s0 Tryz.func55) an) 8
def w23_awake_r  : Option (Bool × Unit) :=
 (r22_New ((1, 1, 2, 1, 1, ()), ())).bind fun y1 =>
 (r22_Run ((y1.1.1, (y1.1.2.1.1, y1.1.2.1.2.1, y1.1.2.1.2.2), y1.1.2.2.1, ((y1.1.2.2.2.1.1.1, y1.1.2.2.2.1.1.2.1, y1.1.2.2.2.1.1.2.2), y1.1.2.2.2.1.2.1, y1.1.2.2.2.1.2.2.1, y1.1.2.2.2.1.2.2.2), y1.1.2.2.2.2.1, y1.1.2.2.2.2.2.1, y1.1.2.2.2.2.2.2.1, y1.1.2.2.2.2.2.2.2.1, y1.1.2.2.2.2.2.2.2.2), [(0, (0, 1, 0, 0, ()), ()), (0, (0, 0, 0, 0, ()), ()), (0, (0, 0, 0, 0, ()), ())], ())).bind fun y2 =>
 (r20_Copied (y2.1, ())).bind fun y3 =>
 (audit_Check ((y1.1.1, (y1.1.2.1.1, y1.1.2.1.2.1, y1.1.2.1.2.2), y1.1.2.2.1, ((y1.1.2.2.2.1.1.1, y1.1.2.2.2.1.1.2.1, y1.1.2.2.2.1.1.2.2), y1.1.2.2.2.1.2.1, y1.1.2.2.2.1.2.2.1, y1.1.2.2.2.1.2.2.2), y1.1.2.2.2.2.1, y1.1.2.2.2.2.2.1, y1.1.2.2.2.2.2.2.1, y1.1.2.2.2.2.2.2.2.1, y1.1.2.2.2.2.2.2.2.2), ())).bind fun y4 =>
 bif y4.1 == 0 then
  (audit_Ok (y2.1, ())).bind fun y5 =>
  bif y5.1 then
   (audit_Check ((y3.1.1, (y3.1.2.1.1, y3.1.2.1.2.1, true, y3.1.2.1.2.2.2), y3.1.2.2.1, ((y3.1.2.2.2.1.1.1, y3.1.2.2.2.1.1.2.1, y3.1.2.2.2.1.1.2.2), y3.1.2.2.2.1.2.1, y3.1.2.2.2.1.2.2.1, y3.1.2.2.2.1.2.2.2), y3.1.2.2.2.2.1, y3.1.2.2.2.2.2.1, y3.1.2.2.2.2.2.2.1, y3.1.2.2.2.2.2.2.2.1, y3.1.2.2.2.2.2.2.2.2), ())).bind fun y6 =>
   bif y6.1 == 3 then
    (audit_Ok ((y3.1.1, (y3.1.2.1.1, y3.1.2.1.2.1, true, y3.1.2.1.2.2.2), y3.1.2.2.1, ((y3.1.2.2.2.1.1.1, y3.1.2.2.2.1.1.2.1, y3.1.2.2.2.1.1.2.2), y3.1.2.2.2.1.2.1, y3.1.2.2.2.1.2.2.1, y3.1.2.2.2.1.2.2.2), y3.1.2.2.2.2.1, y3.1.2.2.2.2.2.1, y3.1.2.2.2.2.2.2.1, y3.1.2.2.2.2.2.2.2.1, y3.1.2.2.2.2.2.2.2.2), ())).bind fun y7 =>
    bif !y7.1 then
     (audit_Check (((0, 0, 0, 0, 0, ()), ([], [], false, ()), [], ((0, [], ()), [], [], 0, 0, 0, false, ()), 0, false, 0, [], ()), ())).bind fun y8 =>
     some (y8.1 == 1, ())
    else
    some (false, ())
   else
   some (false, ())
  else
  some (false, ())
 else
 some (false, ())
def w23_awake (x : Unit) : Option (Bool × Unit) := w23_awake_r 
def w23_awake_sm : Sum := ⟨.nil, (.cons (.d .bool) .nil), w23_awake⟩
def w23_awake_c : Ctx := ⟨[(12, r20_Copied_sm), (19, audit_Check_sm), (21, audit_Ok_sm), (54, r22_New_sm), (55, r22_Run_sm)], [], []⟩
theorem w23_awake_sem : SemOf Tryz.prog 17 w23_awake_sm := semC (c := w23_awake_c) Tryz.func17 (sc r20_Copied_sem (sc audit_Check_sem (sc audit_Ok_sem (sc r22_New_sem (sc r22_Run_sem an))))) an an 8
abbrev r18_Few_h0 : U := (.cons (.sl cMut) (.cons cI .nil))
abbrev r18_Few_o0 : U := (.cons (.sl cMut) .nil)
abbrev r18_Few_e0 : U := (.cons .bool .nil)
def r18_Few_s0r (v0 : List Mut) (v3 : Int) : Option (SRes r18_Few_h0 r18_Few_o0 r18_Few_e0) :=
 bif decide (v3 < (v0.length : Int)) then
  bif decide (v3 < 20) then
   bif decide (0 ≤ v3) then
    bif decide (v3 < (v0.length : Int)) then
     bif decide (((v0.getD v3.toNat ([], 0, (0, 0, 0, 0, ()), 0, (0, 0, ()), List.replicate 4 0, ())).1.length : Int) > 20) then
      some (.fin (.ret (false, ())))
     else
     some (.next (v0, wi64 (v3 + 1), ()))
    else none
   else none
  else
  some (.fin (.out (v0, ())))
 else
 some (.fin (.out (v0, ())))
def r18_Few_s0 (x : r18_Few_h0.T) : Option (SRes r18_Few_h0 r18_Few_o0 r18_Few_e0) := r18_Few_s0r x.1 x.2.1
def r18_Few_l0 (x : r18_Few_h0.T) : Option (LRes r18_Few_o0 r18_Few_e0) := iterL r18_Few_s0 9223372036854775808 x
def r18_Few_r (a0 : List Mut) : Option (Bool × Unit) :=
 (r18_Few_l0 (a0, 0, ())).bind fun s1 => match s1 with
 | .out s1 =>
  some (decide ((s1.1.length : Int) ≤ 10), ())
 | .ret s1 =>
  some (s1.1, ())
def r18_Few (x : (List Mut) × Unit) : Option (Bool × Unit) := r18_Few_r x.1
def r18_Few_sm : Sum := ⟨(.cons (.sl cMut) .nil), (.cons (.d .bool) .nil), r18_Few⟩
def r18_Few_L0 : LoopSum := { hc := ⟨[], [0, 3], [], [], [], [], 32⟩, h := ⟨[(0, (.d (.sl cMut))), (3, (.d cI))], [], [], 32⟩, xid := 0, oc := ⟨[], [0], [], [], [], [], 32⟩, o := ⟨[(0, (.d (.sl cMut)))], [], [], 32⟩, rc := ⟨[], [2], [], [], [], [], 32⟩, r := ⟨[(2, (.d .bool))], [], [], 32⟩, F := r18_Few_l0 }
def r18_Few_c : Ctx := ⟨[], [], [⟨8, 56, 0, 0, r18_Few_L0⟩]⟩
theorem r18_Few_sem : SemOf Tryz.prog 56 r18_Few_sm := semC (c := r18_Few_c) Tryz.func56 an an (ec (aeC [true, false, true, false, false] r18_Few_s0 Tryz.func56) an) 8
abbrev r17_Few_h0 : U := (.cons cI (.cons cMarker .nil))
abbrev r17_Few_o0 : U := (.cons cMarker .nil)
abbrev r17_Few_e0 : U := (.cons .bool .nil)
def r17_Few_s0r (v3 : Int) (c0 : Marker) : Option (SRes r17_Few_h0 r17_Few_o0 r17_Few_e0) :=
 bif decide (v3 < (c0.2.1.length : Int)) then
  bif decide (v3 < 20) then
   bif decide (0 ≤ v3) then
    bif decide (v3 < (c0.2.1.length : Int)) then
     bif decide (((c0.2.1.getD v3.toNat (0, [], ())).2.1.length : Int) > 20) then
      some (.fin (.ret (false, ())))
     else
     some (.next (wi64 (v3 + 1), c0, ()))
    else none
   else none
  else
  some (.fin (.out (c0, ())))
 else
 some (.fin (.out (c0, ())))
def r17_Few_s0 (x : r17_Few_h0.T) : Option (SRes r17_Few_h0 r17_Few_o0 r17_Few_e0) := r17_Few_s0r x.1 x.2.1
def r17_Few_l0 (x : r17_Few_h0.T) : Option (LRes r17_Few_o0 r17_Few_e0) := iterL r17_Few_s0 9223372036854775808 x
def r17_Few_r (a0 : Marker) : Option (Bool × Unit) :=
 (r17_Few_l0 (0, a0, ())).bind fun s1 => match s1 with
 | .out s1 =>
  bif decide ((s1.1.1.2.1.length : Int) ≤ 20) then
   bif decide ((s1.1.2.1.length : Int) ≤ 10) then
    some (decide ((s1.1.2.2.1.length : Int) ≤ 300), ())
   else
   some (false, ())
  else
  some (false, ())
 | .ret s1 =>
  some (s1.1, ())
def r17_Few (x : Marker × Unit) : Option (Bool × Unit) := r17_Few_r x.1
def r17_Few_sm : Sum := ⟨(.cons cMarker .nil), (.cons (.d .bool) .nil), r17_Few⟩
def r17_Few_L0 : LoopSum := { hc := ⟨[], [1, 3], [], [], [0], [], 48⟩, h := ⟨[(1, (.pvar 0 [])), (3, (.d cI))], [(0, (.d cMarker))], [], 48⟩, xid := 0, oc := ⟨[], [1], [], [], [0], [], 48⟩, o := ⟨[(1, (.pvar 0 []))], [(0, (.d cMarker))], [], 48⟩, rc := ⟨[], [2], [], [], [], [], 48⟩, r := ⟨[(2, (.d .bool))], [], [], 48⟩, F := r17_Few_l0 }
def r17_Few_c : Ctx := ⟨[], [], [⟨8, 57, 0, 0, r17_Few_L0⟩]⟩
theorem r17_Few_sem : SemOf Tryz.prog 57 r17_Few_sm := semC (c := r17_Few_c) Tryz.func57 an an (ec (aeC [true, false, true, false, false] r17_Few_s0 Tryz.func57) an) 8
def r20_Few_r (a0 : Wrld) : Option (Bool × Unit) :=
 bif decide ((a0.2.1.1.length : Int) ≤ 160) then
  bif decide ((a0.2.1.2.1.length : Int) ≤ 10) then
   (r18_Few (a0.2.2.1, ())).bind fun y1 =>
   bif y1.1 then
    (r17_Few (a0.2.2.2.1, ())).bind fun y2 =>
    bif y2.1 then
     some (decide ((a0.2.2.2.2.2.2.2.1.length : Int) ≤ 50), ())
    else
    some (false, ())
   else
   some (false, ())
  else
  some (false, ())
 else
 some (false, ())
def r20_Few (x : Wrld × Unit) : Option (Bool × Unit) := r20_Few_r x.1
def r20_Few_sm : Sum := ⟨(.cons cWrld .nil), (.cons (.d .bool) .nil), r20_Few⟩
def r20_Few_c : Ctx := ⟨[(56, r18_Few_sm), (57, r17_Few_sm)], [], []⟩
theorem r20_Few_sem : SemOf Tryz.prog 18 r20_Few_sm := semC (c := r20_Few_c) Tryz.func18 (sc r18_Few_sem (sc r17_Few_sem an)) an an 8
def r20_May_r (a0 : Rep) : Option (Bool × Unit) :=
 bif decide (a0.1 < 1) then
  some (false, ())
 else
 bif decide (a0.1 > 16) then
  some (false, ())
 else
 bif decide (a0.2.1 < 1) then
  some (false, ())
 else
 bif decide (a0.2.1 > 8) then
  some (false, ())
 else
 bif decide (a0.2.2.1 < 1) then
  some (false, ())
 else
 bif decide (a0.2.2.1 > 8) then
  some (false, ())
 else
 bif decide (a0.2.2.2.1 ≥ 0) then
  bif decide (a0.2.2.2.1 ≤ 16) then
   bif decide (a0.2.2.2.2.1 ≥ 0) then
    some (decide (a0.2.2.2.2.1 ≤ 8), ())
   else
   some (false, ())
  else
  some (false, ())
 else
 some (false, ())
def r20_May (x : Rep × Unit) : Option (Bool × Unit) := r20_May_r x.1
def r20_May_sm : Sum := ⟨(.cons cRep .nil), (.cons (.d .bool) .nil), r20_May⟩
def r20_May_c : Ctx := ⟨[], [], []⟩
theorem r20_May_sem : SemOf Tryz.prog 77 r20_May_sm := semC (c := r20_May_c) Tryz.func77 an an an 8
abbrev r06_Right_h0 : U := (.cons cI (.cons cSpan .nil))
abbrev r06_Right_o0 : U := .nil
abbrev r06_Right_e0 : U := (.cons .bool .nil)
def r06_Right_s0r (v3 : Int) (c0 : Span) : Option (SRes r06_Right_h0 r06_Right_o0 r06_Right_e0) :=
 bif decide (v3 < 32) then
  (r03_Has (c0.2.2.1, v3, ())).bind fun y3 =>
  bif y3.1 then
   some (.fin (.ret (false, ())))
  else
  some (.next (wi64 (v3 + 1), c0, ()))
 else
 some (.fin (.out ()))
def r06_Right_s0 (x : r06_Right_h0.T) : Option (SRes r06_Right_h0 r06_Right_o0 r06_Right_e0) := r06_Right_s0r x.1 x.2.1
def r06_Right_l0 (x : r06_Right_h0.T) : Option (LRes r06_Right_o0 r06_Right_e0) := iterL r06_Right_s0 9223372036854775808 x
def r06_Right_r (a0 : Span) : Option (Bool × Unit) :=
 bif a0.1 == 0 then
  bif a0.2.1 == 0 then
   some (a0.2.2.1 == 0, ())
  else
  some (false, ())
 else
 (r06_InUse (a0, ())).bind fun y1 =>
 bif !y1.1 then
  some (false, ())
 else
 bif decide (a0.2.1 < 0) then
  some (false, ())
 else
 bif decide (a0.2.1 > 3) then
  some (false, ())
 else
 (r04_Blocks (a0.2.1, ())).bind fun y2 =>
 (r06_Right_l0 (y2.1, a0, ())).bind fun s4 => match s4 with
 | .out s4 =>
  some (true, ())
 | .ret s4 =>
  some (s4.1, ())
def r06_Right (x : Span × Unit) : Option (Bool × Unit) := r06_Right_r x.1
def r06_Right_sm : Sum := ⟨(.cons cSpan .nil), (.cons (.d .bool) .nil), r06_Right⟩
def r06_Right_L0 : LoopSum := { hc := ⟨[], [1, 3], [], [], [0], [], 352⟩, h := ⟨[(1, (.pvar 0 [])), (3, (.d cI))], [(0, (.d cSpan))], [], 352⟩, xid := 0, oc := ⟨[], [], [], [], [], [], 352⟩, o := ⟨[], [], [], 352⟩, rc := ⟨[], [2], [], [], [], [], 352⟩, r := ⟨[(2, (.d .bool))], [], [], 352⟩, F := r06_Right_l0 }
def r06_Right_c : Ctx := ⟨[(83, r04_Blocks_sm), (84, r03_Has_sm), (219, r06_InUse_sm)], [], [⟨8, 150, 0, 0, r06_Right_L0⟩]⟩
theorem r06_Right_sem : SemOf Tryz.prog 150 r06_Right_sm := semC (c := r06_Right_c) Tryz.func150 (sc r04_Blocks_sem (sc r03_Has_sem (sc r06_InUse_sem an))) an (ec (aeC [true, true, true, false, true, false, false] r06_Right_s0 Tryz.func150) an) 8
abbrev r07_Form_h0 : U := (.cons cI (.cons cHeap .nil))
abbrev r07_Form_o0 : U := .nil
abbrev r07_Form_e0 : U := (.cons .bool .nil)
def r07_Form_s0r (v3 : Int) (c0 : Heap) : Option (SRes r07_Form_h0 r07_Form_o0 r07_Form_e0) :=
 bif decide (v3 < (c0.2.1.length : Int)) then
  bif decide (0 ≤ v3) then
   bif decide (v3 < (c0.2.1.length : Int)) then
    (r06_Right (c0.2.1.getD v3.toNat (0, 0, 0, ()), ())).bind fun y1 =>
    bif !y1.1 then
     some (.fin (.ret (false, ())))
    else
    some (.next (wi64 (v3 + 1), c0, ()))
   else none
  else none
 else
 some (.fin (.out ()))
def r07_Form_s0 (x : r07_Form_h0.T) : Option (SRes r07_Form_h0 r07_Form_o0 r07_Form_e0) := r07_Form_s0r x.1 x.2.1
def r07_Form_l0 (x : r07_Form_h0.T) : Option (LRes r07_Form_o0 r07_Form_e0) := iterL r07_Form_s0 9223372036854775808 x
def r07_Form_r (a0 : Heap) : Option (Bool × Unit) :=
 bif decide ((a0.2.1.length : Int) < 1) then
  some (false, ())
 else
 bif decide ((a0.2.1.length : Int) > 16) then
  some (false, ())
 else
 bif (a0.1.length : Int) != (wi64 (32 * (a0.2.1.length : Int))) then
  some (false, ())
 else
 (r07_Form_l0 (0, a0, ())).bind fun s2 => match s2 with
 | .out s2 =>
  some (true, ())
 | .ret s2 =>
  some (s2.1, ())
def r07_Form (x : Heap × Unit) : Option (Bool × Unit) := r07_Form_r x.1
def r07_Form_sm : Sum := ⟨(.cons cHeap .nil), (.cons (.d .bool) .nil), r07_Form⟩
def r07_Form_L0 : LoopSum := { hc := ⟨[], [1, 3], [], [], [0], [], 368⟩, h := ⟨[(1, (.pvar 0 [])), (3, (.d cI))], [(0, (.d cHeap))], [], 368⟩, xid := 0, oc := ⟨[], [], [], [], [], [], 368⟩, o := ⟨[], [], [], 368⟩, rc := ⟨[], [2], [], [], [], [], 368⟩, r := ⟨[(2, (.d .bool))], [], [], 368⟩, F := r07_Form_l0 }
def r07_Form_c : Ctx := ⟨[(150, r06_Right_sm)], [], [⟨8, 78, 0, 0, r07_Form_L0⟩]⟩
theorem r07_Form_sem : SemOf Tryz.prog 78 r07_Form_sm := semC (c := r07_Form_c) Tryz.func78 (sc r06_Right_sem an) an (ec (aeC [true, true, false, true, false, false] r07_Form_s0 Tryz.func78) an) 8
abbrev r11_Right_h0 : U := (.cons (.sl (.arr 4 cI)) (.cons cI (.cons cI (.cons cI (.cons cI (.cons cI (.cons cI (.cons cHeap .nil))))))))
abbrev r11_Right_o0 : U := (.cons (.sl (.arr 4 cI)) (.cons cI (.cons cI (.cons cI (.cons cI (.cons cI (.cons cHeap .nil)))))))
abbrev r11_Right_e0 : U := .nil
def r11_Right_s0r (v1 : List (List Int)) (v5 : Int) (v6 : Int) (v7 : Int) (v8 : Int) (v9 : Int) (v10 : Int) (c0 : Heap) : Option (SRes r11_Right_h0 r11_Right_o0 r11_Right_e0) :=
 bif decide (v10 < 4) then
  bif decide (0 ≤ v9) then
   bif decide (v9 < (v1.length : Int)) then
    bif decide (0 ≤ v10) then
     bif decide (v10 < 4) then
      bif ((v1.getD v9.toNat (List.replicate 4 0)).getD v10.toNat 0) == v7 then
       some (.next (v1, v5, v6, v7, wi64 (v8 + 1), v9, wi64 (v10 + 1), c0, ()))
      else
      some (.next (v1, v5, v6, v7, v8, v9, wi64 (v10 + 1), c0, ()))
     else none
    else none
   else none
  else none
 else
 some (.fin (.out (v1, v5, v6, v7, v8, v9, c0, ())))
def r11_Right_s0 (x : r11_Right_h0.T) : Option (SRes r11_Right_h0 r11_Right_o0 r11_Right_e0) := r11_Right_s0r x.1 x.2.1 x.2.2.1 x.2.2.2.1 x.2.2.2.2.1 x.2.2.2.2.2.1 x.2.2.2.2.2.2.1 x.2.2.2.2.2.2.2.1
def r11_Right_l0 (x : r11_Right_h0.T) : Option (LRes r11_Right_o0 r11_Right_e0) := iterL r11_Right_s0 9223372036854775808 x
abbrev r11_Right_h1 : U := (.cons (.sl (.arr 4 cI)) (.cons cI (.cons cI (.cons cI (.cons cI (.cons cI (.cons cHeap .nil)))))))
abbrev r11_Right_o1 : U := (.cons (.sl (.arr 4 cI)) (.cons cI (.cons cI (.cons cI (.cons cHeap .nil)))))
abbrev r11_Right_e1 : U := .nil
def r11_Right_s1r (v1 : List (List Int)) (v5 : Int) (v6 : Int) (v7 : Int) (v8 : Int) (v9 : Int) (c0 : Heap) : Option (SRes r11_Right_h1 r11_Right_o1 r11_Right_e1) :=
 bif decide (v9 < (v1.length : Int)) then
  (r11_Right_l0 (v1, v5, v6, v7, v8, v9, 0, c0, ())).bind fun s1 => match s1 with
  | .out s1 =>
   some (.next (s1.1, s1.2.1, s1.2.2.1, s1.2.2.2.1, s1.2.2.2.2.1, wi64 (s1.2.2.2.2.2.1 + 1), s1.2.2.2.2.2.2.1, ()))
  | .ret s1 =>
   none
 else
 some (.fin (.out (v1, v5, v6, v8, c0, ())))
def r11_Right_s1 (x : r11_Right_h1.T) : Option (SRes r11_Right_h1 r11_Right_o1 r11_Right_e1) := r11_Right_s1r x.1 x.2.1 x.2.2.1 x.2.2.2.1 x.2.2.2.2.1 x.2.2.2.2.2.1 x.2.2.2.2.2.2.1
def r11_Right_l1 (x : r11_Right_h1.T) : Option (LRes r11_Right_o1 r11_Right_e1) := iterL r11_Right_s1 9223372036854775808 x
abbrev r11_Right_h2 : U := (.cons (.sl (.arr 4 cI)) (.cons cI (.cons cI (.cons cHeap .nil))))
abbrev r11_Right_o2 : U := (.cons (.sl (.arr 4 cI)) (.cons cI (.cons cHeap .nil)))
abbrev r11_Right_e2 : U := (.cons .bool .nil)
def r11_Right_s2r (v1 : List (List Int)) (v5 : Int) (v6 : Int) (c0 : Heap) : Option (SRes r11_Right_h2 r11_Right_o2 r11_Right_e2) :=
 bif decide (v6 < 4) then
  bif decide (0 ≤ v5) then
   bif decide (v5 < (v1.length : Int)) then
    bif decide (0 ≤ v6) then
     bif decide (v6 < 4) then
      bif ((v1.getD v5.toNat (List.replicate 4 0)).getD v6.toNat 0) == (-1) then
       some (.next (v1, v5, wi64 (v6 + 1), c0, ()))
      else
      bif decide (((v1.getD v5.toNat (List.replicate 4 0)).getD v6.toNat 0) < 0) then
       some (.fin (.ret (false, ())))
      else
      bif decide (((v1.getD v5.toNat (List.replicate 4 0)).getD v6.toNat 0) ≥ (c0.2.1.length : Int)) then
       some (.fin (.ret (false, ())))
      else
      bif decide (0 ≤ ((v1.getD v5.toNat (List.replicate 4 0)).getD v6.toNat 0)) then
       bif decide (((v1.getD v5.toNat (List.replicate 4 0)).getD v6.toNat 0) < (c0.2.1.length : Int)) then
        bif (c0.2.1.getD ((v1.getD v5.toNat (List.replicate 4 0)).getD v6.toNat 0).toNat (0, 0, 0, ())).1 == 0 then
         some (.fin (.ret (false, ())))
        else
        bif decide (0 ≤ ((v1.getD v5.toNat (List.replicate 4 0)).getD v6.toNat 0)) then
         bif decide (((v1.getD v5.toNat (List.replicate 4 0)).getD v6.toNat 0) < (c0.2.1.length : Int)) then
          bif (c0.2.1.getD ((v1.getD v5.toNat (List.replicate 4 0)).getD v6.toNat 0).toNat (0, 0, 0, ())).2.1 != v6 then
           some (.fin (.ret (false, ())))
          else
          (r11_Right_l1 (v1, v5, v6, (v1.getD v5.toNat (List.replicate 4 0)).getD v6.toNat 0, 0, 0, c0, ())).bind fun s2 => match s2 with
          | .out s2 =>
           bif s2.2.2.2.1 != 1 then
            some (.fin (.ret (false, ())))
           else
           some (.next (s2.1, s2.2.1, wi64 (s2.2.2.1 + 1), s2.2.2.2.2.1, ()))
          | .ret s2 =>
           none
         else none
        else none
       else none
      else none
     else none
    else none
   else none
  else none
 else
 some (.fin (.out (v1, v5, c0, ())))
def r11_Right_s2 (x : r11_Right_h2.T) : Option (SRes r11_Right_h2 r11_Right_o2 r11_Right_e2) := r11_Right_s2r x.1 x.2.1 x.2.2.1 x.2.2.2.1
def r11_Right_l2 (x : r11_Right_h2.T) : Option (LRes r11_Right_o2 r11_Right_e2) := iterL r11_Right_s2 9223372036854775808 x
abbrev r11_Right_h3 : U := (.cons (.sl (.arr 4 cI)) (.cons cI (.cons cHeap .nil)))
abbrev r11_Right_o3 : U := .nil
abbrev r11_Right_e3 : U := (.cons .bool .nil)
def r11_Right_s3r (v1 : List (List Int)) (v5 : Int) (c0 : Heap) : Option (SRes r11_Right_h3 r11_Right_o3 r11_Right_e3) :=
 bif decide (v5 < (v1.length : Int)) then
  (r11_Right_l2 (v1, v5, 0, c0, ())).bind fun s3 => match s3 with
  | .out s3 =>
   some (.next (s3.1, wi64 (s3.2.1 + 1), s3.2.2.1, ()))
  | .ret s3 =>
   some (.fin (.ret (s3.1, ())))
 else
 some (.fin (.out ()))
def r11_Right_s3 (x : r11_Right_h3.T) : Option (SRes r11_Right_h3 r11_Right_o3 r11_Right_e3) := r11_Right_s3r x.1 x.2.1 x.2.2.1
def r11_Right_l3 (x : r11_Right_h3.T) : Option (LRes r11_Right_o3 r11_Right_e3) := iterL r11_Right_s3 9223372036854775808 x
def r11_Right_r (a0 : Heap) (a1 : List (List Int)) : Option (Bool × Unit) :=
 (r11_Right_l3 (a1, 0, a0, ())).bind fun s4 => match s4 with
 | .out s4 =>
  some (true, ())
 | .ret s4 =>
  some (s4.1, ())
def r11_Right (x : Heap × (List (List Int)) × Unit) : Option (Bool × Unit) := r11_Right_r x.1 x.2.1
def r11_Right_sm : Sum := ⟨(.cons cHeap (.cons (.sl (.arr 4 cI)) .nil)), (.cons (.d .bool) .nil), r11_Right⟩
def r11_Right_L0 : LoopSum := { hc := ⟨[], [1, 2, 5, 6, 7, 8, 9, 10], [], [], [0], [], 864⟩, h := ⟨[(1, (.d (.sl (.arr 4 cI)))), (2, (.pvar 0 [])), (5, (.d cI)), (6, (.d cI)), (7, (.d cI)), (8, (.d cI)), (9, (.d cI)), (10, (.d cI))], [(0, (.d cHeap))], [], 864⟩, xid := 6, oc := ⟨[], [1, 2, 5, 6, 7, 8, 9], [], [], [0], [], 864⟩, o := ⟨[(1, (.d (.sl (.arr 4 cI)))), (2, (.pvar 0 [])), (5, (.d cI)), (6, (.d cI)), (7, (.d cI)), (8, (.d cI)), (9, (.d cI))], [(0, (.d cHeap))], [], 864⟩, rc := ⟨[], [], [], [], [864], [], 864⟩, r := ⟨[], [], [], 864⟩, F := r11_Right_l0 }
def r11_Right_L1 : LoopSum := { hc := ⟨[], [1, 2, 5, 6, 7, 8, 9], [], [], [0], [], 784⟩, h := ⟨[(1, (.d (.sl (.arr 4 cI)))), (2, (.pvar 0 [])), (5, (.d cI)), (6, (.d cI)), (7, (.d cI)), (8, (.d cI)), (9, (.d cI))], [(0, (.d cHeap))], [], 784⟩, xid := 4, oc := ⟨[], [1, 2, 5, 6, 8], [], [], [0], [], 784⟩, o := ⟨[(1, (.d (.sl (.arr 4 cI)))), (2, (.pvar 0 [])), (5, (.d cI)), (6, (.d cI)), (8, (.d cI))], [(0, (.d cHeap))], [], 784⟩, rc := ⟨[], [], [], [], [784], [], 784⟩, r := ⟨[], [], [], 784⟩, F := r11_Right_l1 }
def r11_Right_L2 : LoopSum := { hc := ⟨[], [1, 2, 5, 6], [], [], [0], [], 128⟩, h := ⟨[(1, (.d (.sl (.arr 4 cI)))), (2, (.pvar 0 [])), (5, (.d cI)), (6, (.d cI))], [(0, (.d cHeap))], [], 128⟩, xid := 2, oc := ⟨[], [1, 2, 5], [], [], [0], [], 128⟩, o := ⟨[(1, (.d (.sl (.arr 4 cI)))), (2, (.pvar 0 [])), (5, (.d cI))], [(0, (.d cHeap))], [], 128⟩, rc := ⟨[], [4], [], [], [], [], 128⟩, r := ⟨[(4, (.d .bool))], [], [], 128⟩, F := r11_Right_l2 }
def r11_Right_L3 : LoopSum := { hc := ⟨[], [1, 2, 5], [], [], [0], [], 48⟩, h := ⟨[(1, (.d (.sl (.arr 4 cI)))), (2, (.pvar 0 [])), (5, (.d cI))], [(0, (.d cHeap))], [], 48⟩, xid := 0, oc := ⟨[], [], [], [], [], [], 48⟩, o := ⟨[], [], [], 48⟩, rc := ⟨[], [4], [], [], [], [], 48⟩, r := ⟨[(4, (.d .bool))], [], [], 48⟩, F := r11_Right_l3 }
def r11_Right_c : Ctx := ⟨[], [], [⟨8, 79, 0, 6, r11_Right_L0⟩, ⟨8, 79, 0, 4, r11_Right_L1⟩, ⟨8, 79, 0, 2, r11_Right_L2⟩, ⟨8, 79, 0, 0, r11_Right_L3⟩]⟩
theorem r11_Right_sem : SemOf Tryz.prog 79 r11_Right_sm := semC (c := r11_Right_c) Tryz.func79 an an (ec (aeC [true, false, true, false, false, true, false, false, true, false, false, true, false, false, true, true, true, true, false, true, false, false, true, false, false, true, false, false] r11_Right_s0 Tryz.func79) (ec (aeC [true, false, true, false, false, true, false, false, true, false, false, true, false, false, true, true, true, true, false, true, false, false] r11_Right_s1 Tryz.func79) (ec (aeC [true, false, true, false, false, true, false, false, true, false, false] r11_Right_s2 Tryz.func79) (ec (aeC [true, false, true, false, false] r11_Right_s3 Tryz.func79) an)))) 8
abbrev r13_Right_h0 : U := (.cons cI (.cons cGrey .nil))
abbrev r13_Right_o0 : U := .nil
abbrev r13_Right_e0 : U := (.cons .bool .nil)
def r13_Right_s0r (v3 : Int) (c0 : Grey) : Option (SRes r13_Right_h0 r13_Right_o0 r13_Right_e0) :=
 bif decide (v3 < (c0.2.1.length : Int)) then
  bif decide (0 ≤ v3) then
   bif decide (v3 < (c0.2.1.length : Int)) then
    bif decide ((c0.2.1.getD v3.toNat 0) < 0) then
     some (.fin (.ret (false, ())))
    else
    some (.next (wi64 (v3 + 1), c0, ()))
   else none
  else none
 else
 some (.fin (.out ()))
def r13_Right_s0 (x : r13_Right_h0.T) : Option (SRes r13_Right_h0 r13_Right_o0 r13_Right_e0) := r13_Right_s0r x.1 x.2.1
def r13_Right_l0 (x : r13_Right_h0.T) : Option (LRes r13_Right_o0 r13_Right_e0) := iterL r13_Right_s0 9223372036854775808 x
def r13_Right_r (a0 : Grey) : Option (Bool × Unit) :=
 bif decide (a0.1 < 0) then
  some (false, ())
 else
 bif decide (a0.1 > 16) then
  some (false, ())
 else
 bif decide ((a0.2.1.length : Int) > a0.1) then
  some (false, ())
 else
 (r13_Right_l0 (0, a0, ())).bind fun s1 => match s1 with
 | .out s1 =>
  some (true, ())
 | .ret s1 =>
  some (s1.1, ())
def r13_Right (x : Grey × Unit) : Option (Bool × Unit) := r13_Right_r x.1
def r13_Right_sm : Sum := ⟨(.cons cGrey .nil), (.cons (.d .bool) .nil), r13_Right⟩
def r13_Right_L0 : LoopSum := { hc := ⟨[], [1, 3], [], [], [0], [], 304⟩, h := ⟨[(1, (.pvar 0 [])), (3, (.d cI))], [(0, (.d cGrey))], [], 304⟩, xid := 0, oc := ⟨[], [], [], [], [], [], 304⟩, o := ⟨[], [], [], 304⟩, rc := ⟨[], [2], [], [], [], [], 304⟩, r := ⟨[(2, (.d .bool))], [], [], 304⟩, F := r13_Right_l0 }
def r13_Right_c : Ctx := ⟨[], [], [⟨8, 151, 0, 0, r13_Right_L0⟩]⟩
theorem r13_Right_sem : SemOf Tryz.prog 151 r13_Right_sm := semC (c := r13_Right_c) Tryz.func151 an an (ec (aeC [true, true, false, true, false, false] r13_Right_s0 Tryz.func151) an) 8
end
end Go.Proofs.YtkjpakaidjpjgaaGreatDoor.Den
