/- What functions come to. Printed by a program of this session. -/
import Derived.Test.YtkjpakaidjpjgaaGreatDoorDenF5
namespace Go.Proofs.YtkjpakaidjpjgaaGreatDoor.Den
open Go
set_option maxRecDepth 100000
set_option linter.unusedVariables false
noncomputable section
def r18_Registers_r (a0 : Mut) : Option ((List Val) × Unit) :=
 bif a0.2.1 == 2 then
  bif a0.2.1 == 3 then
   some ([(2, a0.2.2.2.1, ()), a0.2.2.2.2.1], ())
  else
  bif a0.2.1 == 4 then
   some ([(2, a0.2.2.2.1, ()), a0.2.2.2.2.1], ())
  else
  some ([(2, a0.2.2.2.1, ())], ())
 else
 bif a0.2.1 == 4 then
  bif a0.2.1 == 3 then
   some ([(2, a0.2.2.2.1, ()), a0.2.2.2.2.1], ())
  else
  bif a0.2.1 == 4 then
   some ([(2, a0.2.2.2.1, ()), a0.2.2.2.2.1], ())
  else
  some ([(2, a0.2.2.2.1, ())], ())
 else
 bif a0.2.1 == 3 then
  some ([a0.2.2.2.2.1], ())
 else
 bif a0.2.1 == 4 then
  some ([a0.2.2.2.2.1], ())
 else
 some ([], ())
def r18_Registers (x : Mut × Unit) : Option ((List Val) × Unit) := r18_Registers_r x.1
def r18_Registers_sm : Sum := ⟨(.cons cMut .nil), (.cons (.own cVal) .nil), r18_Registers⟩
def r18_Registers_c : Ctx := ⟨[], [], []⟩
theorem r18_Registers_sem : SemOf Tryz.prog 140 r18_Registers_sm := semC (c := r18_Registers_c) Tryz.func140 an an an 8
abbrev r18_Held_h0 : U := (.cons (.sl cMut) (.cons cI (.cons (.sl cVal) .nil)))
abbrev r18_Held_o0 : U := (.cons (.sl cVal) .nil)
abbrev r18_Held_e0 : U := .nil
def r18_Held_s0r (v0 : List Mut) (v4 : Int) (r48 : List Val) : Option (SRes r18_Held_h0 r18_Held_o0 r18_Held_e0) :=
 bif decide (v4 < (v0.length : Int)) then
  bif decide (0 ≤ v4) then
   bif decide (v4 < (v0.length : Int)) then
    bif decide ((r48.length + (v0.getD v4.toNat ([], 0, (0, 0, 0, 0, ()), 0, (0, 0, ()), List.replicate 4 0, ())).1.length) * 16 ≤ 140737488355328) then
     bif decide (0 ≤ v4) then
      bif decide (v4 < (v0.length : Int)) then
       (r18_Registers (v0.getD v4.toNat ([], 0, (0, 0, 0, 0, ()), 0, (0, 0, ()), List.replicate 4 0, ()), ())).bind fun y1 =>
       bif decide (((r48 ++ (v0.getD v4.toNat ([], 0, (0, 0, 0, 0, ()), 0, (0, 0, ()), List.replicate 4 0, ())).1).length + y1.1.length) * 16 ≤ 140737488355328) then
        some (.next (v0, wi64 (v4 + 1), (r48 ++ (v0.getD v4.toNat ([], 0, (0, 0, 0, 0, ()), 0, (0, 0, ()), List.replicate 4 0, ())).1) ++ y1.1, ()))
       else none
      else none
     else none
    else none
   else none
  else none
 else
 some (.fin (.out (r48, ())))
def r18_Held_s0 (x : r18_Held_h0.T) : Option (SRes r18_Held_h0 r18_Held_o0 r18_Held_e0) := r18_Held_s0r x.1 x.2.1 x.2.2.1
def r18_Held_l0 (x : r18_Held_h0.T) : Option (LRes r18_Held_o0 r18_Held_e0) := iterL r18_Held_s0 9223372036854775808 x
def r18_Held_r (a0 : List Mut) : Option ((List Val) × Unit) :=
 (r18_Held_l0 (a0, 0, [], ())).bind fun s2 => match s2 with
 | .out s2 =>
  some (s2.1, ())
 | .ret s2 =>
  none
def r18_Held (x : (List Mut) × Unit) : Option ((List Val) × Unit) := r18_Held_r x.1
def r18_Held_sm : Sum := ⟨(.cons (.sl cMut) .nil), (.cons (.own cVal) .nil), r18_Held⟩
def r18_Held_L0 : LoopSum := { hc := ⟨[], [0, 3, 4], [(.tmp 3, cVal)], [], [], [], 48⟩, h := ⟨[(0, (.d (.sl cMut))), (3, (.row 48)), (4, (.d cI))], [], [(48, cVal, true)], 49⟩, xid := 0, oc := ⟨[], [3], [(.tmp 3, cVal)], [], [], [], 48⟩, o := ⟨[(3, (.row 48))], [], [(48, cVal, true)], 49⟩, rc := ⟨[], [], [], [], [48], [], 48⟩, r := ⟨[], [], [], 48⟩, F := r18_Held_l0 }
def r18_Held_c : Ctx := ⟨[(140, r18_Registers_sm)], [], [⟨8, 64, 0, 0, r18_Held_L0⟩]⟩
theorem r18_Held_sem : SemOf Tryz.prog 64 r18_Held_sm := semC (c := r18_Held_c) Tryz.func64 (sc r18_Registers_sem an) an (ec (aeC [true, true, false, true, false, false] r18_Held_s0 Tryz.func64) an) 8
abbrev r17_New_h0 : U := (.cons (.sl cI) (.cons cI (.cons cI (.cons .nil (.cons (.cons cI (.cons cI (.cons cI (.cons .bool .nil)))) (.cons cI (.cons .nil (.cons (.cons cI (.cons cI (.cons cI (.cons .bool .nil)))) (.cons (.sl cVal) (.cons (.sl cGrey) .nil))))))))))
abbrev r17_New_o0 : U := (.cons cI (.cons .nil (.cons (.cons cI (.cons cI (.cons cI (.cons .bool .nil)))) (.cons cI (.cons .nil (.cons (.cons cI (.cons cI (.cons cI (.cons .bool .nil)))) (.cons (.sl cVal) (.cons (.sl cGrey) .nil))))))))
abbrev r17_New_e0 : U := .nil
def r17_New_s0r (v1 : List Int) (v8 : Int) (c0_0 : Int) (c0_1 : Unit) (c0_2 : Int × Int × Int × Bool × Unit) (c64_0 : Int) (c64_1 : Unit) (c64_2 : Int × Int × Int × Bool × Unit) (r144 : List Val) (r208 : List Grey) : Option (SRes r17_New_h0 r17_New_o0 r17_New_e0) :=
 bif decide (v8 < (v1.length : Int)) then
  bif decide (0 ≤ v8) then
   bif decide (v8 < (v1.length : Int)) then
    bif decide ((r208.length + 1) * 32 ≤ 140737488355328) then
     some (.next (v1, wi64 (v8 + 1), c0_0, c0_1, c0_2, c64_0, c64_1, c64_2, r144, r208 ++ [(v1.getD v8.toNat 0, [], ())], ()))
    else none
   else none
  else none
 else
 some (.fin (.out (c0_0, c0_1, c0_2, c64_0, c64_1, c64_2, r144, r208, ())))
def r17_New_s0 (x : r17_New_h0.T) : Option (SRes r17_New_h0 r17_New_o0 r17_New_e0) := r17_New_s0r x.1 x.2.1 x.2.2.1 x.2.2.2.1 x.2.2.2.2.1 x.2.2.2.2.2.1 x.2.2.2.2.2.2.1 x.2.2.2.2.2.2.2.1 x.2.2.2.2.2.2.2.2.1 x.2.2.2.2.2.2.2.2.2.1
def r17_New_l0 (x : r17_New_h0.T) : Option (LRes r17_New_o0 r17_New_e0) := iterL r17_New_s0 9223372036854775808 x
def r17_New_r (a0 : Int) (a1 : List Int) (a2 : List Val) : Option (Marker × Unit) :=
 bif decide (a2.length * 16 ≤ 140737488355328) then
  (r17_New_l0 (a1, 0, 0, (), (0, 0, 0, false, ()), a0, (), ((-1), 0, (-1), false, ()), a2, [], ())).bind fun s1 => match s1 with
  | .out s1 =>
   some (((s1.2.2.2.1, [], s1.2.2.2.2.1), s1.2.2.2.2.2.2.2.1, s1.2.2.2.2.2.2.1, s1.2.2.2.2.2.1), ())
  | .ret s1 =>
   none
 else none
def r17_New (x : Int × (List Int) × (List Val) × Unit) : Option (Marker × Unit) := r17_New_r x.1 x.2.1 x.2.2.1
def r17_New_sm : Sum := ⟨(.cons cI (.cons (.sl cI) (.cons (.sl cVal) .nil))), (.cons (.cons (.cons (.d cI) (.cons (.own cI) (.d .nil))) (.cons (.own cGrey) (.cons (.own cVal) (.d (.cons cI (.cons cI (.cons cI (.cons .bool .nil)))))))) .nil), r17_New⟩
def r17_New_L0 : LoopSum := { hc := ⟨[], [1, 6, 7, 8], [(.key 64 [.fld 1], cGrey)], [], [0, 64], [144], 208⟩, h := ⟨[(1, (.d (.sl cI))), (6, (.pvar 0 [])), (7, (.pvar 64 [])), (8, (.d cI))], [(0, (.cons (.cons (.d cI) (.cons .nilsl (.d .nil))) (.cons .nilsl (.cons .nilsl (.d (.cons cI (.cons cI (.cons cI (.cons .bool .nil))))))))), (64, (.cons (.cons (.d cI) (.cons .nilsl (.d .nil))) (.cons (.row 208) (.cons (.row 144) (.d (.cons cI (.cons cI (.cons cI (.cons .bool .nil)))))))))], [(144, cVal, true), (208, cGrey, true)], 209⟩, xid := 0, oc := ⟨[], [6, 7], [(.ptr 7 [.fld 1], cGrey)], [], [0, 64], [144], 208⟩, o := ⟨[(6, (.pvar 0 [])), (7, (.pvar 64 []))], [(0, (.cons (.cons (.d cI) (.cons .nilsl (.d .nil))) (.cons .nilsl (.cons .nilsl (.d (.cons cI (.cons cI (.cons cI (.cons .bool .nil))))))))), (64, (.cons (.cons (.d cI) (.cons .nilsl (.d .nil))) (.cons (.row 208) (.cons (.row 144) (.d (.cons cI (.cons cI (.cons cI (.cons .bool .nil)))))))))], [(144, cVal, true), (208, cGrey, true)], 209⟩, rc := ⟨[], [], [], [], [208], [], 208⟩, r := ⟨[], [], [], 208⟩, F := r17_New_l0 }
def r17_New_c : Ctx := ⟨[], [], [⟨8, 302, 0, 0, r17_New_L0⟩]⟩
theorem r17_New_sem : SemOf Tryz.prog 302 r17_New_sm := semC (c := r17_New_c) Tryz.func302 an an (ec (aeC [true, true, true, false, true, false, false] r17_New_s0 Tryz.func302) an) 8
abbrev r18_Pending_h0 : U := (.cons (.sl cMut) (.cons cI (.cons cHeap (.cons (.sl cVal) .nil))))
abbrev r18_Pending_o0 : U := (.cons (.sl cVal) .nil)
abbrev r18_Pending_e0 : U := .nil
def r18_Pending_s0r (v1 : List Mut) (v6 : Int) (c0 : Heap) (r64 : List Val) : Option (SRes r18_Pending_h0 r18_Pending_o0 r18_Pending_e0) :=
 bif decide (v6 < (v1.length : Int)) then
  bif decide (0 ≤ v6) then
   bif decide (v6 < (v1.length : Int)) then
    bif (v1.getD v6.toNat ([], 0, (0, 0, 0, 0, ()), 0, (0, 0, ()), List.replicate 4 0, ())).2.1 == 4 then
     bif decide (0 ≤ v6) then
      bif decide (v6 < (v1.length : Int)) then
       bif decide (0 ≤ v6) then
        bif decide (v6 < (v1.length : Int)) then
         (r08_Field (c0, (v1.getD v6.toNat ([], 0, (0, 0, 0, 0, ()), 0, (0, 0, ()), List.replicate 4 0, ())).2.2.2.1, (v1.getD v6.toNat ([], 0, (0, 0, 0, 0, ()), 0, (0, 0, ()), List.replicate 4 0, ())).2.2.1.2.2.1, ())).bind fun y1 =>
         bif decide ((r64.length + 1) * 16 ≤ 140737488355328) then
          some (.next (v1, wi64 (v6 + 1), c0, r64 ++ [(y1.1.1, y1.1.2.1, ())], ()))
         else none
        else none
       else none
      else none
     else none
    else
    some (.next (v1, wi64 (v6 + 1), c0, r64, ()))
   else none
  else none
 else
 some (.fin (.out (r64, ())))
def r18_Pending_s0 (x : r18_Pending_h0.T) : Option (SRes r18_Pending_h0 r18_Pending_o0 r18_Pending_e0) := r18_Pending_s0r x.1 x.2.1 x.2.2.1 x.2.2.2.1
def r18_Pending_l0 (x : r18_Pending_h0.T) : Option (LRes r18_Pending_o0 r18_Pending_e0) := iterL r18_Pending_s0 9223372036854775808 x
def r18_Pending_r (a0 : Heap) (a1 : List Mut) : Option ((List Val) × Unit) :=
 (r18_Pending_l0 (a1, 0, a0, [], ())).bind fun s2 => match s2 with
 | .out s2 =>
  some (s2.1, ())
 | .ret s2 =>
  none
def r18_Pending (x : Heap × (List Mut) × Unit) : Option ((List Val) × Unit) := r18_Pending_r x.1 x.2.1
def r18_Pending_sm : Sum := ⟨(.cons cHeap (.cons (.sl cMut) .nil)), (.cons (.own cVal) .nil), r18_Pending⟩
def r18_Pending_L0 : LoopSum := { hc := ⟨[], [1, 2, 5, 6], [(.tmp 5, cVal)], [], [0], [], 64⟩, h := ⟨[(1, (.d (.sl cMut))), (2, (.pvar 0 [])), (5, (.row 64)), (6, (.d cI))], [(0, (.d cHeap))], [(64, cVal, true)], 65⟩, xid := 0, oc := ⟨[], [5], [(.tmp 5, cVal)], [], [], [], 64⟩, o := ⟨[(5, (.row 64))], [], [(64, cVal, true)], 65⟩, rc := ⟨[], [], [], [], [64], [], 64⟩, r := ⟨[], [], [], 64⟩, F := r18_Pending_l0 }
def r18_Pending_c : Ctx := ⟨[(109, r08_Field_sm)], [], [⟨8, 303, 0, 0, r18_Pending_L0⟩]⟩
theorem r18_Pending_sem : SemOf Tryz.prog 303 r18_Pending_sm := semC (c := r18_Pending_c) Tryz.func303 (sc r08_Field_sem an) an (ec (aeC [true, true, false, true, false, false] r18_Pending_s0 Tryz.func303) an) 8
abbrev r18_Begin_h0 : U := (.cons (.sl cMut) (.cons cI (.cons cRep (.cons cHeap (.cons (.cons .bool .nil) (.cons cI (.cons .nil (.cons (.cons cI (.cons cI (.cons cI (.cons .bool .nil)))) (.cons (.sl cI) .nil)))))))))
abbrev r18_Begin_o0 : U := (.cons (.sl cMut) (.cons cRep (.cons cHeap (.cons (.cons .bool .nil) (.cons cI (.cons .nil (.cons (.cons cI (.cons cI (.cons cI (.cons .bool .nil)))) (.cons (.sl cI) .nil))))))))
abbrev r18_Begin_e0 : U := .nil
def r18_Begin_s0r (v2 : List Mut) (v9 : Int) (c0 : Rep) (c16 : Heap) (c32 : Bool × Unit) (c48_0 : Int) (c48_1 : Unit) (c48_2 : Int × Int × Int × Bool × Unit) (r96 : List Int) : Option (SRes r18_Begin_h0 r18_Begin_o0 r18_Begin_e0) :=
 bif decide (v9 < (v2.length : Int)) then
  bif decide ((r96.length + 1) * 8 ≤ 140737488355328) then
   some (.next (v2, wi64 (v9 + 1), c0, c16, c32, c48_0, c48_1, c48_2, r96 ++ [c0.2.2.2.2.1], ()))
  else none
 else
 some (.fin (.out (v2, c0, c16, c32, c48_0, c48_1, c48_2, r96, ())))
def r18_Begin_s0 (x : r18_Begin_h0.T) : Option (SRes r18_Begin_h0 r18_Begin_o0 r18_Begin_e0) := r18_Begin_s0r x.1 x.2.1 x.2.2.1 x.2.2.2.1 x.2.2.2.2.1 x.2.2.2.2.2.1 x.2.2.2.2.2.2.1 x.2.2.2.2.2.2.2.1 x.2.2.2.2.2.2.2.2.1
def r18_Begin_l0 (x : r18_Begin_h0.T) : Option (LRes r18_Begin_o0 r18_Begin_e0) := iterL r18_Begin_s0 9223372036854775808 x
def r18_Begin_r (a0 : Rep) (a1 : Heap) (a2 : List Mut) : Option (Heap × Marker × Unit) :=
 (r18_Begin_l0 (a2, 0, a0, a1, (false, ()), 0, (), (0, 0, 0, false, ()), [], ())).bind fun s1 => match s1 with
 | .out s1 =>
  (r18_Held (s1.1, ())).bind fun y2 =>
  (r18_Pending (s1.2.2.1, s1.1, ())).bind fun y3 =>
  bif decide ((y2.1.length + y3.1.length) * 16 ≤ 140737488355328) then
   (r17_New (s1.2.1.2.2.2.1, s1.2.2.2.2.2.2.2.1, y2.1 ++ y3.1, ())).bind fun y4 =>
   bif decide (s1.2.2.1.1.length * 8 ≤ 140737488355328) then
    bif decide (s1.2.2.1.2.1.length * 24 ≤ 140737488355328) then
     some ((s1.2.2.1.1, s1.2.2.1.2.1, !s1.2.2.1.2.2.1, ()), ((y4.1.1.1, y4.1.1.2.1, y4.1.1.2.2), y4.1.2.1, y4.1.2.2.1, y4.1.2.2.2), ())
    else none
   else none
  else none
 | .ret s1 =>
  none
def r18_Begin (x : Rep × Heap × (List Mut) × Unit) : Option (Heap × Marker × Unit) := r18_Begin_r x.1 x.2.1 x.2.2.1
def r18_Begin_sm : Sum := ⟨(.cons cRep (.cons cHeap (.cons (.sl cMut) .nil))), (.cons (.cons (.own (.int .u64)) (.cons (.own cSpan) (.cons (.d .bool) .nil))) (.cons (.cons (.cons (.d cI) (.cons (.own cI) (.d .nil))) (.cons (.own cGrey) (.cons (.own cVal) (.d (.cons cI (.cons cI (.cons cI (.cons .bool .nil)))))))) .nil)), r18_Begin⟩
def r18_Begin_L0 : LoopSum := { hc := ⟨[], [2, 3, 4, 6, 7, 8, 9], [(.tmp 8, cI)], [], [0, 16, 32, 48], [], 96⟩, h := ⟨[(2, (.d (.sl cMut))), (3, (.pvar 0 [])), (4, (.pvar 16 [])), (6, (.pvar 32 [])), (7, (.pvar 48 [])), (8, (.row 96)), (9, (.d cI))], [(0, (.d cRep)), (16, (.d cHeap)), (32, (.cons .nilsl (.cons .nilsl (.d (.cons .bool .nil))))), (48, (.cons (.cons (.d cI) (.cons .nilsl (.d .nil))) (.cons .nilsl (.cons .nilsl (.d (.cons cI (.cons cI (.cons cI (.cons .bool .nil)))))))))], [(96, cI, true)], 97⟩, xid := 0, oc := ⟨[], [2, 3, 4, 6, 7, 8], [(.tmp 8, cI)], [], [0, 16, 32, 48], [], 96⟩, o := ⟨[(2, (.d (.sl cMut))), (3, (.pvar 0 [])), (4, (.pvar 16 [])), (6, (.pvar 32 [])), (7, (.pvar 48 [])), (8, (.row 96))], [(0, (.d cRep)), (16, (.d cHeap)), (32, (.cons .nilsl (.cons .nilsl (.d (.cons .bool .nil))))), (48, (.cons (.cons (.d cI) (.cons .nilsl (.d .nil))) (.cons .nilsl (.cons .nilsl (.d (.cons cI (.cons cI (.cons cI (.cons .bool .nil)))))))))], [(96, cI, true)], 97⟩, rc := ⟨[], [], [], [], [96], [], 96⟩, r := ⟨[], [], [], 96⟩, F := r18_Begin_l0 }
def r18_Begin_c : Ctx := ⟨[(64, r18_Held_sm), (302, r17_New_sm), (303, r18_Pending_sm)], [], [⟨8, 256, 0, 0, r18_Begin_L0⟩]⟩
theorem r18_Begin_sem : SemOf Tryz.prog 256 r18_Begin_sm := semC (c := r18_Begin_c) Tryz.func256 (sc r18_Held_sem (sc r17_New_sem (sc r18_Pending_sem an))) an (ec (aeC [true, true, false, true, false, false] r18_Begin_s0 Tryz.func256) an) 8
abbrev r08_List_h0 : U := (.cons cI (.cons cHeap (.cons (.sl cI) .nil)))
abbrev r08_List_o0 : U := (.cons (.sl cI) .nil)
abbrev r08_List_e0 : U := .nil
def r08_List_s0r (v4 : Int) (c0 : Heap) (r64 : List Int) : Option (SRes r08_List_h0 r08_List_o0 r08_List_e0) :=
 bif decide (v4 < (c0.1.length : Int)) then
  (r08_Get (c0, v4, ())).bind fun y1 =>
  bif y1.2.1 then
   bif decide ((r64.length + 1) * 8 ≤ 140737488355328) then
    some (.next (wi64 (v4 + 1), c0, r64 ++ [v4], ()))
   else none
  else
  some (.next (wi64 (v4 + 1), c0, r64, ()))
 else
 some (.fin (.out (r64, ())))
def r08_List_s0 (x : r08_List_h0.T) : Option (SRes r08_List_h0 r08_List_o0 r08_List_e0) := r08_List_s0r x.1 x.2.1 x.2.2.1
def r08_List_l0 (x : r08_List_h0.T) : Option (LRes r08_List_o0 r08_List_e0) := iterL r08_List_s0 9223372036854775808 x
def r08_List_r (a0 : Heap) : Option ((List Int) × Unit) :=
 (r08_List_l0 (0, a0, [], ())).bind fun s2 => match s2 with
 | .out s2 =>
  some (s2.1, ())
 | .ret s2 =>
  none
def r08_List (x : Heap × Unit) : Option ((List Int) × Unit) := r08_List_r x.1
def r08_List_sm : Sum := ⟨(.cons cHeap .nil), (.cons (.own cI) .nil), r08_List⟩
def r08_List_L0 : LoopSum := { hc := ⟨[], [1, 3, 4], [(.tmp 3, cI)], [], [0], [], 64⟩, h := ⟨[(1, (.pvar 0 [])), (3, (.row 64)), (4, (.d cI))], [(0, (.d cHeap))], [(64, cI, true)], 65⟩, xid := 0, oc := ⟨[], [3], [(.tmp 3, cI)], [], [], [], 64⟩, o := ⟨[(3, (.row 64))], [], [(64, cI, true)], 65⟩, rc := ⟨[], [], [], [], [64], [], 64⟩, r := ⟨[], [], [], 64⟩, F := r08_List_l0 }
def r08_List_c : Ctx := ⟨[(65, r08_Get_sm)], [], [⟨8, 66, 0, 0, r08_List_L0⟩]⟩
theorem r08_List_sem : SemOf Tryz.prog 66 r08_List_sm := semC (c := r08_List_c) Tryz.func66 (sc r08_Get_sem an) an (ec (aeC [true, true, false, true, false, false] r08_List_s0 Tryz.func66) an) 8
def r13_Pop_r (a0 : Grey) : Option (Grey × Int × Bool × Unit) :=
 bif (a0.2.1.length : Int) == 0 then
  some (a0, 0, false, ())
 else
 bif decide (0 ≤ (wi64 ((a0.2.1.length : Int) - 1))) then
  bif decide ((wi64 ((a0.2.1.length : Int) - 1)) ≤ (a0.2.1.length : Int)) then
   bif decide ((0 + ((a0.2.1.drop 0).take ((wi64 ((a0.2.1.length : Int) - 1)).toNat - 0)).length) * 8 ≤ 140737488355328) then
    bif decide (0 ≤ (wi64 ((a0.2.1.length : Int) - 1))) then
     bif decide ((wi64 ((a0.2.1.length : Int) - 1)) < (a0.2.1.length : Int)) then
      some ((a0.1, (a0.2.1.drop 0).take ((wi64 ((a0.2.1.length : Int) - 1)).toNat - 0), ()), a0.2.1.getD (wi64 ((a0.2.1.length : Int) - 1)).toNat 0, true, ())
     else none
    else none
   else none
  else none
 else none
def r13_Pop (x : Grey × Unit) : Option (Grey × Int × Bool × Unit) := r13_Pop_r x.1
def r13_Pop_sm : Sum := ⟨(.cons cGrey .nil), (.cons (.d cGrey) (.cons (.d cI) (.cons (.d .bool) .nil))), r13_Pop⟩
def r13_Pop_c : Ctx := ⟨[], [], []⟩
theorem r13_Pop_sem : SemOf Tryz.prog 304 r13_Pop_sm := semC (c := r13_Pop_c) Tryz.func304 an an an 8
def r17_hand_r (a0 : Heap) (a1 : Marker) (a2 : Int) : Option (Marker × Unit) :=
 (r08_Get (a0, a2, ())).bind fun y1 =>
 bif y1.2.1 then
  bif decide (y1.1.2.2.2.1 > 0) then
   some ((a1.1, a1.2.1, a1.2.2.1, a2, 0, a1.2.2.2.2.2), ())
  else
  some (a1, ())
 else
 some (a1, ())
def r17_hand (x : Heap × Marker × Int × Unit) : Option (Marker × Unit) := r17_hand_r x.1 x.2.1 x.2.2.1
def r17_hand_sm : Sum := ⟨(.cons cHeap (.cons cMarker (.cons cI .nil))), (.cons (.d cMarker) .nil), r17_hand⟩
def r17_hand_c : Ctx := ⟨[(65, r08_Get_sm)], [], []⟩
theorem r17_hand_sem : SemOf Tryz.prog 305 r17_hand_sm := semC (c := r17_hand_c) Tryz.func305 (sc r08_Get_sem an) an an 8
abbrev r17_Step_h0 : U := (.cons cI (.cons cI (.cons cI (.cons cHeap (.cons cMarker (.cons (.cons .bool .nil) (.cons cI (.cons .nil (.cons (.cons cI (.cons cI (.cons cI (.cons .bool .nil)))) (.cons cGrey (.cons (.sl cGrey) .nil)))))))))))
abbrev r17_Step_o0 : U := (.cons cI (.cons cHeap (.cons cMarker (.cons (.cons .bool .nil) (.cons cI (.cons .nil (.cons (.cons cI (.cons cI (.cons cI (.cons .bool .nil)))) (.cons (.sl cGrey) .nil))))))))
abbrev r17_Step_e0 : U := .nil
def r17_Step_s0r (v17 : Int) (v19 : Int) (v22 : Int) (c0 : Heap) (c16 : Marker) (c32 : Bool × Unit) (c48_0 : Int) (c48_1 : Unit) (c48_2 : Int × Int × Int × Bool × Unit) (c576 : Grey) (r688 : List Grey) : Option (SRes r17_Step_h0 r17_Step_o0 r17_Step_e0) :=
 bif decide (v22 < (c16.2.1.length : Int)) then
  bif v22 == v17 then
   bif decide ((r688.length + 1) * 32 ≤ 140737488355328) then
    some (.next (v17, v19, wi64 (v22 + 1), c0, c16, c32, c48_0, c48_1, c48_2, c576, r688 ++ [c576], ()))
   else none
  else
  bif decide (0 ≤ v22) then
   bif decide (v22 < (c16.2.1.length : Int)) then
    bif decide ((r688.length + 1) * 32 ≤ 140737488355328) then
     some (.next (v17, v19, wi64 (v22 + 1), c0, c16, c32, c48_0, c48_1, c48_2, c576, r688 ++ [c16.2.1.getD v22.toNat (0, [], ())], ()))
    else none
   else none
  else none
 else
 some (.fin (.out (v19, c0, c16, c32, c48_0, c48_1, c48_2, r688, ())))
def r17_Step_s0 (x : r17_Step_h0.T) : Option (SRes r17_Step_h0 r17_Step_o0 r17_Step_e0) := r17_Step_s0r x.1 x.2.1 x.2.2.1 x.2.2.2.1 x.2.2.2.2.1 x.2.2.2.2.2.1 x.2.2.2.2.2.2.1 x.2.2.2.2.2.2.2.1 x.2.2.2.2.2.2.2.2.1 x.2.2.2.2.2.2.2.2.2.1 x.2.2.2.2.2.2.2.2.2.2.1
def r17_Step_l0 (x : r17_Step_h0.T) : Option (LRes r17_Step_o0 r17_Step_e0) := iterL r17_Step_s0 9223372036854775808 x
abbrev r17_Step_h1 : U := (.cons cI (.cons cHeap (.cons cMarker (.cons (.cons .bool .nil) (.cons cI (.cons .nil (.cons (.cons cI (.cons cI (.cons cI (.cons .bool .nil)))) .nil)))))))
abbrev r17_Step_o1 : U := (.cons cHeap (.cons cMarker (.cons (.cons .bool .nil) (.cons cI (.cons .nil (.cons (.cons cI (.cons cI (.cons cI (.cons .bool .nil)))) .nil))))))
abbrev r17_Step_e1 : U := (.cons .bool (.cons cHeap (.cons cMarker .nil)))
def r17_Step_s1r (v17 : Int) (c0 : Heap) (c16 : Marker) (c32 : Bool × Unit) (c48_0 : Int) (c48_1 : Unit) (c48_2 : Int × Int × Int × Bool × Unit) : Option (SRes r17_Step_h1 r17_Step_o1 r17_Step_e1) :=
 bif decide (v17 < (c16.2.1.length : Int)) then
  bif decide (0 ≤ v17) then
   bif decide (v17 < (c16.2.1.length : Int)) then
    (r13_Pop (c16.2.1.getD v17.toNat (0, [], ()), ())).bind fun y6 =>
    bif y6.2.2.1 then
     (r17_Step_l0 (v17, y6.2.1, 0, c0, c16, c32, c48_0, c48_1, c48_2, y6.1, [], ())).bind fun s7 => match s7 with
     | .out s7 =>
      (r17_hand (s7.2.1, (s7.2.2.1.1, s7.2.2.2.2.2.2.2.1, s7.2.2.1.2.2), s7.1, ())).bind fun y8 =>
      some (.fin (.ret (false, s7.2.1, y8.1, ())))
     | .ret s7 =>
      none
    else
    some (.next (wi64 (v17 + 1), c0, c16, c32, c48_0, c48_1, c48_2, ()))
   else none
  else none
 else
 some (.fin (.out (c0, c16, c32, c48_0, c48_1, c48_2, ())))
def r17_Step_s1 (x : r17_Step_h1.T) : Option (SRes r17_Step_h1 r17_Step_o1 r17_Step_e1) := r17_Step_s1r x.1 x.2.1 x.2.2.1 x.2.2.2.1 x.2.2.2.2.1 x.2.2.2.2.2.1 x.2.2.2.2.2.2.1
def r17_Step_l1 (x : r17_Step_h1.T) : Option (LRes r17_Step_o1 r17_Step_e1) := iterL r17_Step_s1 9223372036854775808 x
abbrev r17_Step_h2 : U := (.cons cI (.cons cHeap (.cons cMarker (.cons (.cons .bool .nil) (.cons cI (.cons .nil (.cons (.cons cI (.cons cI (.cons cI (.cons .bool .nil)))) (.cons (.sl cI) .nil))))))))
abbrev r17_Step_o2 : U := (.cons cHeap (.cons cMarker (.cons (.cons .bool .nil) (.cons cI (.cons .nil (.cons (.cons cI (.cons cI (.cons cI (.cons .bool .nil)))) .nil))))))
abbrev r17_Step_e2 : U := (.cons .bool (.cons cHeap (.cons cMarker .nil)))
def r17_Step_s2r (v27 : Int) (c0 : Heap) (c16 : Marker) (c32 : Bool × Unit) (c48_0 : Int) (c48_1 : Unit) (c48_2 : Int × Int × Int × Bool × Unit) (r464 : List Int) : Option (SRes r17_Step_h2 r17_Step_o2 r17_Step_e2) :=
 bif decide (v27 < (r464.length : Int)) then
  bif decide (0 ≤ v27) then
   bif decide (v27 < (r464.length : Int)) then
    bif decide ((r464.getD v27.toNat 0) ≥ c16.2.2.2.2.2.1) then
     bif decide (0 ≤ v27) then
      bif decide (v27 < (r464.length : Int)) then
       (r08_Black (c0, r464.getD v27.toNat 0, ())).bind fun y12 =>
       bif y12.1 then
        bif decide (0 ≤ v27) then
         bif decide (v27 < (r464.length : Int)) then
          bif decide (0 ≤ v27) then
           bif decide (v27 < (r464.length : Int)) then
            (r17_hand (c0, (c16.1, c16.2.1, c16.2.2.1, c16.2.2.2.1, c16.2.2.2.2.1, wi64 ((r464.getD v27.toNat 0) + 1), c16.2.2.2.2.2.2), r464.getD v27.toNat 0, ())).bind fun y13 =>
            some (.fin (.ret (false, c0, y13.1, ())))
           else none
          else none
         else none
        else none
       else
       some (.next (wi64 (v27 + 1), c0, c16, c32, c48_0, c48_1, c48_2, r464, ()))
      else none
     else none
    else
    some (.next (wi64 (v27 + 1), c0, c16, c32, c48_0, c48_1, c48_2, r464, ()))
   else none
  else none
 else
 some (.fin (.out (c0, c16, c32, c48_0, c48_1, c48_2, ())))
def r17_Step_s2 (x : r17_Step_h2.T) : Option (SRes r17_Step_h2 r17_Step_o2 r17_Step_e2) := r17_Step_s2r x.1 x.2.1 x.2.2.1 x.2.2.2.1 x.2.2.2.2.1 x.2.2.2.2.2.1 x.2.2.2.2.2.2.1 x.2.2.2.2.2.2.2.1
def r17_Step_l2 (x : r17_Step_h2.T) : Option (LRes r17_Step_o2 r17_Step_e2) := iterL r17_Step_s2 9223372036854775808 x
def r17_Step_r (a0 : Heap) (a1 : Marker) : Option (Heap × Marker × Bool × Unit) :=
 bif a1.2.2.2.1 != (-1) then
  (r08_Field (a0, a1.2.2.2.1, a1.2.2.2.2.1, ())).bind fun y1 =>
  (r08_Get (a0, a1.2.2.2.1, ())).bind fun y2 =>
  (r16_Shade (a0, a1.1, (y1.1.1, y1.1.2.1, ()), ())).bind fun y3 =>
  bif a1.2.2.2.2.2.2.1 then
   bif (wi64 (a1.2.2.2.2.1 + 1)) == y2.1.2.2.2.1 then
    some (y3.1, (y3.2.1, a1.2.1, a1.2.2.1, (-1), 0, a1.2.2.2.2.2.1, true, a1.2.2.2.2.2.2.2), false, ())
   else
   some (y3.1, (y3.2.1, a1.2.1, a1.2.2.1, a1.2.2.2.1, wi64 (a1.2.2.2.2.1 + 1), a1.2.2.2.2.2.1, true, a1.2.2.2.2.2.2.2), false, ())
  else
  bif (wi64 (a1.2.2.2.2.1 + 1)) == y2.1.2.2.2.1 then
   some (y3.1, (y3.2.1, a1.2.1, a1.2.2.1, (-1), 0, a1.2.2.2.2.2.1, y3.2.2.1, a1.2.2.2.2.2.2.2), false, ())
  else
  some (y3.1, (y3.2.1, a1.2.1, a1.2.2.1, a1.2.2.2.1, wi64 (a1.2.2.2.2.1 + 1), a1.2.2.2.2.2.1, y3.2.2.1, a1.2.2.2.2.2.2.2), false, ())
 else
 (r13_Pop (a1.1, ())).bind fun y4 =>
 bif y4.2.2.1 then
  (r17_hand (a0, (y4.1, a1.2), y4.2.1, ())).bind fun y5 =>
  some (a0, y5.1, false, ())
 else
 (r17_Step_l1 (0, a0, a1, (false, ()), 0, (), (0, 0, 0, false, ()), ())).bind fun s9 => match s9 with
 | .out s9 =>
  bif decide ((s9.2.1.2.2.1.length : Int) > 0) then
   bif decide (0 < (s9.2.1.2.2.1.length : Int)) then
    (r16_Shade (s9.1, s9.2.1.1, s9.2.1.2.2.1.getD 0 (0, 0, ()), ())).bind fun y10 =>
    bif s9.2.1.2.2.2.2.2.2.1 then
     bif decide (1 ≤ (s9.2.1.2.2.1.length : Int)) then
      bif decide ((s9.2.1.2.2.1.length : Int) ≤ (s9.2.1.2.2.1.length : Int)) then
       bif decide ((0 + ((s9.2.1.2.2.1.drop 1).take ((s9.2.1.2.2.1.length : Int).toNat - 1)).length) * 16 ≤ 140737488355328) then
        some (y10.1, (y10.2.1, s9.2.1.2.1, (s9.2.1.2.2.1.drop 1).take ((s9.2.1.2.2.1.length : Int).toNat - 1), s9.2.1.2.2.2.1, s9.2.1.2.2.2.2.1, s9.2.1.2.2.2.2.2.1, true, s9.2.1.2.2.2.2.2.2.2), false, ())
       else none
      else none
     else none
    else
    bif decide (1 ≤ (s9.2.1.2.2.1.length : Int)) then
     bif decide ((s9.2.1.2.2.1.length : Int) ≤ (s9.2.1.2.2.1.length : Int)) then
      bif decide ((0 + ((s9.2.1.2.2.1.drop 1).take ((s9.2.1.2.2.1.length : Int).toNat - 1)).length) * 16 ≤ 140737488355328) then
       some (y10.1, (y10.2.1, s9.2.1.2.1, (s9.2.1.2.2.1.drop 1).take ((s9.2.1.2.2.1.length : Int).toNat - 1), s9.2.1.2.2.2.1, s9.2.1.2.2.2.2.1, s9.2.1.2.2.2.2.2.1, y10.2.2.1, s9.2.1.2.2.2.2.2.2.2), false, ())
      else none
     else none
    else none
   else none
  else
  bif s9.2.1.2.2.2.2.2.1 != (-1) then
   (r08_List (s9.1, ())).bind fun y11 =>
   (r17_Step_l2 (0, s9.1, s9.2.1, s9.2.2.1, s9.2.2.2.1, s9.2.2.2.2.1, s9.2.2.2.2.2.1, y11.1, ())).bind fun s14 => match s14 with
   | .out s14 =>
    some (s14.1, (s14.2.1.1, s14.2.1.2.1, s14.2.1.2.2.1, s14.2.1.2.2.2.1, s14.2.1.2.2.2.2.1, (-1), s14.2.1.2.2.2.2.2.2), false, ())
   | .ret s14 =>
    some (s14.2.1, s14.2.2.1, s14.1, ())
  else
  bif s9.2.1.2.2.2.2.2.2.1 then
   some (s9.1, (s9.2.1.1, s9.2.1.2.1, s9.2.1.2.2.1, s9.2.1.2.2.2.1, s9.2.1.2.2.2.2.1, 0, false, s9.2.1.2.2.2.2.2.2.2), false, ())
  else
  some (s9.1, s9.2.1, true, ())
 | .ret s9 =>
  some (s9.2.1, s9.2.2.1, s9.1, ())
def r17_Step (x : Heap × Marker × Unit) : Option (Heap × Marker × Bool × Unit) := r17_Step_r x.1 x.2.1
def r17_Step_sm : Sum := ⟨(.cons cHeap (.cons cMarker .nil)), (.cons (.d cHeap) (.cons (.d cMarker) (.cons (.d .bool) .nil))), r17_Step⟩
def r17_Step_L0 : LoopSum := { hc := ⟨[], [2, 3, 4, 5, 17, 18, 19, 21, 22], [(.tmp 21, cGrey)], [], [0, 16, 32, 48, 576], [], 688⟩, h := ⟨[(2, (.pvar 0 [])), (3, (.pvar 16 [])), (4, (.pvar 32 [])), (5, (.pvar 48 [])), (17, (.d cI)), (18, (.pvar 576 [])), (19, (.d cI)), (21, (.row 688)), (22, (.d cI))], [(0, (.d cHeap)), (16, (.d cMarker)), (32, (.cons .nilsl (.cons .nilsl (.d (.cons .bool .nil))))), (48, (.cons (.cons (.d cI) (.cons .nilsl (.d .nil))) (.cons .nilsl (.cons .nilsl (.d (.cons cI (.cons cI (.cons cI (.cons .bool .nil))))))))), (576, (.d cGrey))], [(688, cGrey, true)], 689⟩, xid := 2, oc := ⟨[], [2, 3, 4, 5, 19, 21], [(.tmp 21, cGrey)], [], [0, 16, 32, 48], [], 688⟩, o := ⟨[(2, (.pvar 0 [])), (3, (.pvar 16 [])), (4, (.pvar 32 [])), (5, (.pvar 48 [])), (19, (.d cI)), (21, (.row 688))], [(0, (.d cHeap)), (16, (.d cMarker)), (32, (.cons .nilsl (.cons .nilsl (.d (.cons .bool .nil))))), (48, (.cons (.cons (.d cI) (.cons .nilsl (.d .nil))) (.cons .nilsl (.cons .nilsl (.d (.cons cI (.cons cI (.cons cI (.cons .bool .nil)))))))))], [(688, cGrey, true)], 689⟩, rc := ⟨[], [], [], [], [688], [], 688⟩, r := ⟨[], [], [], 688⟩, F := r17_Step_l0 }
def r17_Step_L1 : LoopSum := { hc := ⟨[], [2, 3, 4, 5, 17], [], [], [0, 16, 32, 48], [], 336⟩, h := ⟨[(2, (.pvar 0 [])), (3, (.pvar 16 [])), (4, (.pvar 32 [])), (5, (.pvar 48 [])), (17, (.d cI))], [(0, (.d cHeap)), (16, (.d cMarker)), (32, (.cons .nilsl (.cons .nilsl (.d (.cons .bool .nil))))), (48, (.cons (.cons (.d cI) (.cons .nilsl (.d .nil))) (.cons .nilsl (.cons .nilsl (.d (.cons cI (.cons cI (.cons cI (.cons .bool .nil)))))))))], [], 336⟩, xid := 0, oc := ⟨[], [2, 3, 4, 5], [], [], [0, 16, 32, 48], [], 336⟩, o := ⟨[(2, (.pvar 0 [])), (3, (.pvar 16 [])), (4, (.pvar 32 [])), (5, (.pvar 48 []))], [(0, (.d cHeap)), (16, (.d cMarker)), (32, (.cons .nilsl (.cons .nilsl (.d (.cons .bool .nil))))), (48, (.cons (.cons (.d cI) (.cons .nilsl (.d .nil))) (.cons .nilsl (.cons .nilsl (.d (.cons cI (.cons cI (.cons cI (.cons .bool .nil)))))))))], [], 336⟩, rc := ⟨[], [4, 5, 6], [], [], [32, 48], [], 336⟩, r := ⟨[(4, (.pvar 32 [])), (5, (.pvar 48 [])), (6, (.d .bool))], [(32, (.d cHeap)), (48, (.d cMarker))], [], 336⟩, F := r17_Step_l1 }
def r17_Step_L2 : LoopSum := { hc := ⟨[], [2, 3, 4, 5, 26, 27], [], [], [0, 16, 32, 48], [464], 512⟩, h := ⟨[(2, (.pvar 0 [])), (3, (.pvar 16 [])), (4, (.pvar 32 [])), (5, (.pvar 48 [])), (26, (.row 464)), (27, (.d cI))], [(0, (.d cHeap)), (16, (.d cMarker)), (32, (.cons .nilsl (.cons .nilsl (.d (.cons .bool .nil))))), (48, (.cons (.cons (.d cI) (.cons .nilsl (.d .nil))) (.cons .nilsl (.cons .nilsl (.d (.cons cI (.cons cI (.cons cI (.cons .bool .nil)))))))))], [(464, cI, true)], 512⟩, xid := 4, oc := ⟨[], [2, 3, 4, 5], [], [], [0, 16, 32, 48], [], 512⟩, o := ⟨[(2, (.pvar 0 [])), (3, (.pvar 16 [])), (4, (.pvar 32 [])), (5, (.pvar 48 []))], [(0, (.d cHeap)), (16, (.d cMarker)), (32, (.cons .nilsl (.cons .nilsl (.d (.cons .bool .nil))))), (48, (.cons (.cons (.d cI) (.cons .nilsl (.d .nil))) (.cons .nilsl (.cons .nilsl (.d (.cons cI (.cons cI (.cons cI (.cons .bool .nil)))))))))], [], 512⟩, rc := ⟨[], [4, 5, 6], [], [], [32, 48], [], 512⟩, r := ⟨[(4, (.pvar 32 [])), (5, (.pvar 48 [])), (6, (.d .bool))], [(32, (.d cHeap)), (48, (.d cMarker))], [], 512⟩, F := r17_Step_l2 }
def r17_Step_c : Ctx := ⟨[(65, r08_Get_sm), (66, r08_List_sm), (69, r08_Black_sm), (109, r08_Field_sm), (188, r16_Shade_sm), (304, r13_Pop_sm), (305, r17_hand_sm)], [], [⟨8, 257, 0, 2, r17_Step_L0⟩, ⟨8, 257, 0, 0, r17_Step_L1⟩, ⟨8, 257, 0, 4, r17_Step_L2⟩]⟩
theorem r17_Step_sem : SemOf Tryz.prog 257 r17_Step_sm := semC (c := r17_Step_c) Tryz.func257 (sc r08_Get_sem (sc r08_List_sem (sc r08_Black_sem (sc r08_Field_sem (sc r16_Shade_sem (sc r13_Pop_sem (sc r17_hand_sem an))))))) an (ec (aeC [true, true, true, true, false, true, false, false, true, false, false, true, true, false, true, false, true, false, false] r17_Step_s0 Tryz.func257) (ec (aeC [true, true, true, true, false, true, false, false] r17_Step_s1 Tryz.func257) (ec (aeC [true, true, true, true, true, true, false, true, false, true, false, true, false, false] r17_Step_s2 Tryz.func257) an))) 8
abbrev r07_Used_h0 : U := (.cons cI (.cons cI (.cons cHeap .nil)))
abbrev r07_Used_o0 : U := (.cons cI .nil)
abbrev r07_Used_e0 : U := .nil
def r07_Used_s0r (v3 : Int) (v4 : Int) (c0 : Heap) : Option (SRes r07_Used_h0 r07_Used_o0 r07_Used_e0) :=
 bif decide (v4 < (c0.2.1.length : Int)) then
  bif decide (0 ≤ v4) then
   bif decide (v4 < (c0.2.1.length : Int)) then
    bif (c0.2.1.getD v4.toNat (0, 0, 0, ())).1 != 0 then
     (r04_Blocks ((c0.2.1.getD v4.toNat (0, 0, 0, ())).2.1, ())).bind fun y1 =>
     (r06_Free (c0.2.1.getD v4.toNat (0, 0, 0, ()), ())).bind fun y2 =>
     (r04_Words ((c0.2.1.getD v4.toNat (0, 0, 0, ())).2.1, ())).bind fun y3 =>
     some (.next (wi64 (v3 + (wi64 ((wi64 (y1.1 - y2.1)) * y3.1))), wi64 (v4 + 1), c0, ()))
    else
    some (.next (v3, wi64 (v4 + 1), c0, ()))
   else none
  else none
 else
 some (.fin (.out (v3, ())))
def r07_Used_s0 (x : r07_Used_h0.T) : Option (SRes r07_Used_h0 r07_Used_o0 r07_Used_e0) := r07_Used_s0r x.1 x.2.1 x.2.2.1
def r07_Used_l0 (x : r07_Used_h0.T) : Option (LRes r07_Used_o0 r07_Used_e0) := iterL r07_Used_s0 9223372036854775808 x
def r07_Used_r (a0 : Heap) : Option (Int × Unit) :=
 (r07_Used_l0 (0, 0, a0, ())).bind fun s4 => match s4 with
 | .out s4 =>
  some (s4.1, ())
 | .ret s4 =>
  none
def r07_Used (x : Heap × Unit) : Option (Int × Unit) := r07_Used_r x.1
def r07_Used_sm : Sum := ⟨(.cons cHeap .nil), (.cons (.d cI) .nil), r07_Used⟩
def r07_Used_L0 : LoopSum := { hc := ⟨[], [1, 3, 4], [], [], [0], [], 64⟩, h := ⟨[(1, (.pvar 0 [])), (3, (.d cI)), (4, (.d cI))], [(0, (.d cHeap))], [], 64⟩, xid := 0, oc := ⟨[], [3], [], [], [], [], 64⟩, o := ⟨[(3, (.d cI))], [], [], 64⟩, rc := ⟨[], [], [], [], [64], [], 64⟩, r := ⟨[], [], [], 64⟩, F := r07_Used_l0 }
def r07_Used_c : Ctx := ⟨[(82, r04_Words_sm), (83, r04_Blocks_sm), (91, r06_Free_sm)], [], [⟨8, 30, 0, 0, r07_Used_L0⟩]⟩
theorem r07_Used_sem : SemOf Tryz.prog 30 r07_Used_sm := semC (c := r07_Used_c) Tryz.func30 (sc r04_Words_sem (sc r04_Blocks_sem (sc r06_Free_sem an))) an (ec (aeC [true, true, false, true, false, false] r07_Used_s0 Tryz.func30) an) 8
abbrev r08_In_h0 : U := (.cons (.sl cI) cVal)
abbrev r08_In_o0 : U := .nil
abbrev r08_In_e0 : U := (.cons .bool .nil)
def r08_In_s0r (v0 : List Int) (v1 : Int) (v5 : Int) : Option (SRes r08_In_h0 r08_In_o0 r08_In_e0) :=
 bif decide (v5 < (v0.length : Int)) then
  bif decide (0 ≤ v5) then
   bif decide (v5 < (v0.length : Int)) then
    bif (v0.getD v5.toNat 0) == v1 then
     some (.fin (.ret (true, ())))
    else
    some (.next (v0, v1, wi64 (v5 + 1), ()))
   else none
  else none
 else
 some (.fin (.out ()))
def r08_In_s0 (x : r08_In_h0.T) : Option (SRes r08_In_h0 r08_In_o0 r08_In_e0) := r08_In_s0r x.1 x.2.1 x.2.2.1
def r08_In_l0 (x : r08_In_h0.T) : Option (LRes r08_In_o0 r08_In_e0) := iterL r08_In_s0 9223372036854775808 x
def r08_In_r (a0 : List Int) (a1 : Int) : Option (Bool × Unit) :=
 (r08_In_l0 (a0, a1, 0, ())).bind fun s1 => match s1 with
 | .out s1 =>
  some (false, ())
 | .ret s1 =>
  some (s1.1, ())
def r08_In (x : (List Int) × Int × Unit) : Option (Bool × Unit) := r08_In_r x.1 x.2.1
def r08_In_sm : Sum := ⟨(.cons (.sl cI) (.cons cI .nil)), (.cons (.d .bool) .nil), r08_In⟩
def r08_In_L0 : LoopSum := { hc := ⟨[], [0, 1, 5], [], [], [], [], 32⟩, h := ⟨[(0, (.d (.sl cI))), (1, (.d cI)), (5, (.d cI))], [], [], 32⟩, xid := 0, oc := ⟨[], [], [], [], [], [], 32⟩, o := ⟨[], [], [], 32⟩, rc := ⟨[], [4], [], [], [], [], 32⟩, r := ⟨[(4, (.d .bool))], [], [], 32⟩, F := r08_In_l0 }
def r08_In_c : Ctx := ⟨[], [], [⟨8, 71, 0, 0, r08_In_L0⟩]⟩
theorem r08_In_sem : SemOf Tryz.prog 71 r08_In_sm := semC (c := r08_In_c) Tryz.func71 an an (ec (aeC [true, false, true, false, false] r08_In_s0 Tryz.func71) an) 8
abbrev r08_Refs_h0 : U := (.cons cI (.cons cI (.cons cHeap (.cons cHdr (.cons (.sl cI) .nil)))))
abbrev r08_Refs_o0 : U := (.cons (.sl cI) .nil)
abbrev r08_Refs_e0 : U := .nil
def r08_Refs_s0r (v1 : Int) (v8 : Int) (c0 : Heap) (c144 : Hdr) (r208 : List Int) : Option (SRes r08_Refs_h0 r08_Refs_o0 r08_Refs_e0) :=
 bif decide (v8 < c144.2.2.2.1) then
  (r08_Field (c0, v1, v8, ())).bind fun y2 =>
  bif y2.1.1 == 2 then
   bif decide ((r208.length + 1) * 8 ≤ 140737488355328) then
    some (.next (v1, wi64 (v8 + 1), c0, c144, r208 ++ [y2.1.2.1], ()))
   else none
  else
  some (.next (v1, wi64 (v8 + 1), c0, c144, r208, ()))
 else
 some (.fin (.out (r208, ())))
def r08_Refs_s0 (x : r08_Refs_h0.T) : Option (SRes r08_Refs_h0 r08_Refs_o0 r08_Refs_e0) := r08_Refs_s0r x.1 x.2.1 x.2.2.1 x.2.2.2.1 x.2.2.2.2.1
def r08_Refs_l0 (x : r08_Refs_h0.T) : Option (LRes r08_Refs_o0 r08_Refs_e0) := iterL r08_Refs_s0 9223372036854775808 x
def r08_Refs_r (a0 : Heap) (a1 : Int) : Option ((List Int) × Unit) :=
 (r08_Get (a0, a1, ())).bind fun y1 =>
 (r08_Refs_l0 (a1, 0, a0, y1.1, [], ())).bind fun s3 => match s3 with
 | .out s3 =>
  some (s3.1, ())
 | .ret s3 =>
  none
def r08_Refs (x : Heap × Int × Unit) : Option ((List Int) × Unit) := r08_Refs_r x.1 x.2.1
def r08_Refs_sm : Sum := ⟨(.cons cHeap (.cons cI .nil)), (.cons (.own cI) .nil), r08_Refs⟩
def r08_Refs_L0 : LoopSum := { hc := ⟨[], [1, 2, 5, 6, 8], [(.tmp 5, cI)], [], [0, 144], [], 208⟩, h := ⟨[(1, (.d cI)), (2, (.pvar 0 [])), (5, (.row 208)), (6, (.pvar 144 [])), (8, (.d cI))], [(0, (.d cHeap)), (144, (.d cHdr))], [(208, cI, true)], 209⟩, xid := 0, oc := ⟨[], [5], [(.tmp 5, cI)], [], [], [], 208⟩, o := ⟨[(5, (.row 208))], [], [(208, cI, true)], 209⟩, rc := ⟨[], [], [], [], [208], [], 208⟩, r := ⟨[], [], [], 208⟩, F := r08_Refs_l0 }
def r08_Refs_c : Ctx := ⟨[(65, r08_Get_sm), (109, r08_Field_sm)], [], [⟨8, 85, 0, 0, r08_Refs_L0⟩]⟩
theorem r08_Refs_sem : SemOf Tryz.prog 85 r08_Refs_sm := semC (c := r08_Refs_c) Tryz.func85 (sc r08_Get_sem (sc r08_Field_sem an)) an (ec (aeC [true, true, true, false, true, false, false] r08_Refs_s0 Tryz.func85) an) 8
abbrev r15_From_h0 : U := (.cons (.sl cVal) (.cons cI (.cons cI (.cons cHeap (.cons (.sl cI) (.cons (.sl .bool) .nil))))))
abbrev r15_From_o0 : U := (.cons (.sl cVal) (.cons cI (.cons cHeap (.cons (.sl cI) (.cons (.sl .bool) .nil)))))
abbrev r15_From_e0 : U := .nil
def r15_From_s0r (v1 : List Val) (v7 : Int) (v8 : Int) (c0 : Heap) (r48 : List Int) (r112 : List Bool) : Option (SRes r15_From_h0 r15_From_o0 r15_From_e0) :=
 bif decide (v8 < (v1.length : Int)) then
  bif decide (0 ≤ v7) then
   bif decide (v7 < (r112.length : Int)) then
    bif r112.getD v7.toNat false then
     bif decide (0 ≤ v7) then
      bif decide (v7 < (r112.length : Int)) then
       some (.next (v1, v7, wi64 (v8 + 1), c0, r48, r112.set v7.toNat true, ()))
      else none
     else none
    else
    bif decide (0 ≤ v8) then
     bif decide (v8 < (v1.length : Int)) then
      bif (v1.getD v8.toNat (0, 0, ())).1 == 2 then
       bif decide (0 ≤ v8) then
        bif decide (v8 < (v1.length : Int)) then
         bif decide (0 ≤ v7) then
          bif decide (v7 < (r48.length : Int)) then
           bif decide (0 ≤ v7) then
            bif decide (v7 < (r112.length : Int)) then
             some (.next (v1, v7, wi64 (v8 + 1), c0, r48, r112.set v7.toNat ((v1.getD v8.toNat (0, 0, ())).2.1 == (r48.getD v7.toNat 0)), ()))
            else none
           else none
          else none
         else none
        else none
       else none
      else
      bif decide (0 ≤ v7) then
       bif decide (v7 < (r112.length : Int)) then
        some (.next (v1, v7, wi64 (v8 + 1), c0, r48, r112.set v7.toNat false, ()))
       else none
      else none
     else none
    else none
   else none
  else none
 else
 some (.fin (.out (v1, v7, c0, r48, r112, ())))
def r15_From_s0 (x : r15_From_h0.T) : Option (SRes r15_From_h0 r15_From_o0 r15_From_e0) := r15_From_s0r x.1 x.2.1 x.2.2.1 x.2.2.2.1 x.2.2.2.2.1 x.2.2.2.2.2.1
def r15_From_l0 (x : r15_From_h0.T) : Option (LRes r15_From_o0 r15_From_e0) := iterL r15_From_s0 9223372036854775808 x
abbrev r15_From_h1 : U := (.cons (.sl cVal) (.cons cI (.cons cHeap (.cons (.sl cI) (.cons (.sl .bool) .nil)))))
abbrev r15_From_o1 : U := (.cons cHeap (.cons (.sl cI) (.cons (.sl .bool) .nil)))
abbrev r15_From_e1 : U := .nil
def r15_From_s1r (v1 : List Val) (v7 : Int) (c0 : Heap) (r48 : List Int) (r112 : List Bool) : Option (SRes r15_From_h1 r15_From_o1 r15_From_e1) :=
 bif decide (v7 < (r48.length : Int)) then
  (r15_From_l0 (v1, v7, 0, c0, r48, r112, ())).bind fun s2 => match s2 with
  | .out s2 =>
   some (.next (s2.1, wi64 (s2.2.1 + 1), s2.2.2.1, s2.2.2.2.1, s2.2.2.2.2.1, ()))
  | .ret s2 =>
   none
 else
 some (.fin (.out (c0, r48, r112, ())))
def r15_From_s1 (x : r15_From_h1.T) : Option (SRes r15_From_h1 r15_From_o1 r15_From_e1) := r15_From_s1r x.1 x.2.1 x.2.2.1 x.2.2.2.1 x.2.2.2.2.1
def r15_From_l1 (x : r15_From_h1.T) : Option (LRes r15_From_o1 r15_From_e1) := iterL r15_From_s1 9223372036854775808 x
abbrev r15_From_h2 : U := (.cons cI (.cons cI (.cons cI (.cons cHeap (.cons (.sl cI) (.cons (.sl .bool) (.cons (.sl cI) .nil)))))))
abbrev r15_From_o2 : U := (.cons cI (.cons cI (.cons cHeap (.cons (.sl cI) (.cons (.sl .bool) .nil)))))
abbrev r15_From_e2 : U := .nil
def r15_From_s2r (v9 : Int) (v10 : Int) (v12 : Int) (c0 : Heap) (r48 : List Int) (r112 : List Bool) (r480 : List Int) : Option (SRes r15_From_h2 r15_From_o2 r15_From_e2) :=
 bif decide (v12 < (r48.length : Int)) then
  bif decide (0 ≤ v12) then
   bif decide (v12 < (r112.length : Int)) then
    bif r112.getD v12.toNat false then
     bif decide (0 ≤ v12) then
      bif decide (v12 < (r112.length : Int)) then
       some (.next (v9, v10, wi64 (v12 + 1), c0, r48, r112.set v12.toNat true, r480, ()))
      else none
     else none
    else
    bif decide (0 ≤ v12) then
     bif decide (v12 < (r48.length : Int)) then
      (r08_In (r480, r48.getD v12.toNat 0, ())).bind fun y5 =>
      bif decide (0 ≤ v12) then
       bif decide (v12 < (r112.length : Int)) then
        some (.next (v9, v10, wi64 (v12 + 1), c0, r48, r112.set v12.toNat y5.1, r480, ()))
       else none
      else none
     else none
    else none
   else none
  else none
 else
 some (.fin (.out (v9, v10, c0, r48, r112, ())))
def r15_From_s2 (x : r15_From_h2.T) : Option (SRes r15_From_h2 r15_From_o2 r15_From_e2) := r15_From_s2r x.1 x.2.1 x.2.2.1 x.2.2.2.1 x.2.2.2.2.1 x.2.2.2.2.2.1 x.2.2.2.2.2.2.1
def r15_From_l2 (x : r15_From_h2.T) : Option (LRes r15_From_o2 r15_From_e2) := iterL r15_From_s2 9223372036854775808 x
abbrev r15_From_h3 : U := (.cons cI (.cons cI (.cons cHeap (.cons (.sl cI) (.cons (.sl .bool) .nil)))))
abbrev r15_From_o3 : U := (.cons cI (.cons cHeap (.cons (.sl cI) (.cons (.sl .bool) .nil))))
abbrev r15_From_e3 : U := .nil
def r15_From_s3r (v9 : Int) (v10 : Int) (c0 : Heap) (r48 : List Int) (r112 : List Bool) : Option (SRes r15_From_h3 r15_From_o3 r15_From_e3) :=
 bif decide (v10 < (r48.length : Int)) then
  bif decide (0 ≤ v10) then
   bif decide (v10 < (r112.length : Int)) then
    bif !(r112.getD v10.toNat false) then
     some (.next (v9, wi64 (v10 + 1), c0, r48, r112, ()))
    else
    bif decide (0 ≤ v10) then
     bif decide (v10 < (r48.length : Int)) then
      (r08_Refs (c0, r48.getD v10.toNat 0, ())).bind fun y4 =>
      (r15_From_l2 (v9, v10, 0, c0, r48, r112, y4.1, ())).bind fun s6 => match s6 with
      | .out s6 =>
       some (.next (s6.1, wi64 (s6.2.1 + 1), s6.2.2.1, s6.2.2.2.1, s6.2.2.2.2.1, ()))
      | .ret s6 =>
       none
     else none
    else none
   else none
  else none
 else
 some (.fin (.out (v9, c0, r48, r112, ())))
def r15_From_s3 (x : r15_From_h3.T) : Option (SRes r15_From_h3 r15_From_o3 r15_From_e3) := r15_From_s3r x.1 x.2.1 x.2.2.1 x.2.2.2.1 x.2.2.2.2.1
def r15_From_l3 (x : r15_From_h3.T) : Option (LRes r15_From_o3 r15_From_e3) := iterL r15_From_s3 9223372036854775808 x
abbrev r15_From_h4 : U := (.cons cI (.cons cHeap (.cons (.sl cI) (.cons (.sl .bool) .nil))))
abbrev r15_From_o4 : U := (.cons (.sl cI) (.cons (.sl .bool) .nil))
abbrev r15_From_e4 : U := .nil
def r15_From_s4r (v9 : Int) (c0 : Heap) (r48 : List Int) (r112 : List Bool) : Option (SRes r15_From_h4 r15_From_o4 r15_From_e4) :=
 bif decide (v9 < (r48.length : Int)) then
  (r15_From_l3 (v9, 0, c0, r48, r112, ())).bind fun s7 => match s7 with
  | .out s7 =>
   some (.next (wi64 (s7.1 + 1), s7.2.1, s7.2.2.1, s7.2.2.2.1, ()))
  | .ret s7 =>
   none
 else
 some (.fin (.out (r48, r112, ())))
def r15_From_s4 (x : r15_From_h4.T) : Option (SRes r15_From_h4 r15_From_o4 r15_From_e4) := r15_From_s4r x.1 x.2.1 x.2.2.1 x.2.2.2.1
def r15_From_l4 (x : r15_From_h4.T) : Option (LRes r15_From_o4 r15_From_e4) := iterL r15_From_s4 9223372036854775808 x
abbrev r15_From_h5 : U := (.cons cI (.cons (.sl cI) (.cons (.sl .bool) (.cons (.sl cI) .nil))))
abbrev r15_From_o5 : U := (.cons (.sl cI) .nil)
abbrev r15_From_e5 : U := .nil
def r15_From_s5r (v14 : Int) (r48 : List Int) (r112 : List Bool) (r208 : List Int) : Option (SRes r15_From_h5 r15_From_o5 r15_From_e5) :=
 bif decide (v14 < (r48.length : Int)) then
  bif decide (0 ≤ v14) then
   bif decide (v14 < (r112.length : Int)) then
    bif r112.getD v14.toNat false then
     bif decide (0 ≤ v14) then
      bif decide (v14 < (r48.length : Int)) then
       bif decide ((r208.length + 1) * 8 ≤ 140737488355328) then
        some (.next (wi64 (v14 + 1), r48, r112, r208 ++ [r48.getD v14.toNat 0], ()))
       else none
      else none
     else none
    else
    some (.next (wi64 (v14 + 1), r48, r112, r208, ()))
   else none
  else none
 else
 some (.fin (.out (r208, ())))
def r15_From_s5 (x : r15_From_h5.T) : Option (SRes r15_From_h5 r15_From_o5 r15_From_e5) := r15_From_s5r x.1 x.2.1 x.2.2.1 x.2.2.2.1
def r15_From_l5 (x : r15_From_h5.T) : Option (LRes r15_From_o5 r15_From_e5) := iterL r15_From_s5 9223372036854775808 x
def r15_From_r (a0 : Heap) (a1 : List Val) : Option ((List Int) × Unit) :=
 (r08_List (a0, ())).bind fun y1 =>
 bif (y1.1.length : Int) == (y1.1.length : Int) then
  bif decide (0 ≤ (y1.1.length : Int)) then
   bif decide ((y1.1.length : Int).toNat * 1 ≤ 140737488355328) then
    (r15_From_l1 (a1, 0, a0, y1.1, List.replicate (y1.1.length : Int).toNat false, ())).bind fun s3 => match s3 with
    | .out s3 =>
     (r15_From_l4 (0, s3.1, s3.2.1, s3.2.2.1, ())).bind fun s8 => match s8 with
     | .out s8 =>
      (r15_From_l5 (0, s8.1, s8.2.1, [], ())).bind fun s9 => match s9 with
      | .out s9 =>
       some (s9.1, ())
      | .ret s9 =>
       none
     | .ret s8 =>
      none
    | .ret s3 =>
     none
   else none
  else none
 else none
def r15_From (x : Heap × (List Val) × Unit) : Option ((List Int) × Unit) := r15_From_r x.1 x.2.1
def r15_From_sm : Sum := ⟨(.cons cHeap (.cons (.sl cVal) .nil)), (.cons (.own cI) .nil), r15_From⟩
def r15_From_L0 : LoopSum := { hc := ⟨[], [1, 2, 5, 6, 7, 8], [], [], [0], [48, 112], 240⟩, h := ⟨[(1, (.d (.sl cVal))), (2, (.pvar 0 [])), (5, (.row 48)), (6, (.row 112)), (7, (.d cI)), (8, (.d cI))], [(0, (.d cHeap))], [(48, cI, true), (112, .bool, true)], 240⟩, xid := 2, oc := ⟨[], [1, 2, 5, 6, 7], [], [], [0], [48, 112], 240⟩, o := ⟨[(1, (.d (.sl cVal))), (2, (.pvar 0 [])), (5, (.row 48)), (6, (.row 112)), (7, (.d cI))], [(0, (.d cHeap))], [(48, cI, true), (112, .bool, true)], 240⟩, rc := ⟨[], [], [], [], [240], [], 240⟩, r := ⟨[], [], [], 240⟩, F := r15_From_l0 }
def r15_From_L1 : LoopSum := { hc := ⟨[], [1, 2, 5, 6, 7], [], [], [0], [48, 112], 160⟩, h := ⟨[(1, (.d (.sl cVal))), (2, (.pvar 0 [])), (5, (.row 48)), (6, (.row 112)), (7, (.d cI))], [(0, (.d cHeap))], [(48, cI, true), (112, .bool, true)], 160⟩, xid := 0, oc := ⟨[], [2, 5, 6], [], [], [0], [48, 112], 160⟩, o := ⟨[(2, (.pvar 0 [])), (5, (.row 48)), (6, (.row 112))], [(0, (.d cHeap))], [(48, cI, true), (112, .bool, true)], 160⟩, rc := ⟨[], [], [], [], [160], [], 160⟩, r := ⟨[], [], [], 160⟩, F := r15_From_l1 }
def r15_From_L2 : LoopSum := { hc := ⟨[], [2, 5, 6, 9, 10, 11, 12], [], [], [0], [48, 112, 480], 528⟩, h := ⟨[(2, (.pvar 0 [])), (5, (.row 48)), (6, (.row 112)), (9, (.d cI)), (10, (.d cI)), (11, (.row 480)), (12, (.d cI))], [(0, (.d cHeap))], [(48, cI, true), (112, .bool, true), (480, cI, true)], 528⟩, xid := 8, oc := ⟨[], [2, 5, 6, 9, 10], [], [], [0], [48, 112], 528⟩, o := ⟨[(2, (.pvar 0 [])), (5, (.row 48)), (6, (.row 112)), (9, (.d cI)), (10, (.d cI))], [(0, (.d cHeap))], [(48, cI, true), (112, .bool, true)], 528⟩, rc := ⟨[], [], [], [], [528], [], 528⟩, r := ⟨[], [], [], 528⟩, F := r15_From_l2 }
def r15_From_L3 : LoopSum := { hc := ⟨[], [2, 5, 6, 9, 10], [], [], [0], [48, 112], 256⟩, h := ⟨[(2, (.pvar 0 [])), (5, (.row 48)), (6, (.row 112)), (9, (.d cI)), (10, (.d cI))], [(0, (.d cHeap))], [(48, cI, true), (112, .bool, true)], 256⟩, xid := 6, oc := ⟨[], [2, 5, 6, 9], [], [], [0], [48, 112], 256⟩, o := ⟨[(2, (.pvar 0 [])), (5, (.row 48)), (6, (.row 112)), (9, (.d cI))], [(0, (.d cHeap))], [(48, cI, true), (112, .bool, true)], 256⟩, rc := ⟨[], [], [], [], [256], [], 256⟩, r := ⟨[], [], [], 256⟩, F := r15_From_l3 }
def r15_From_L4 : LoopSum := { hc := ⟨[], [2, 5, 6, 9], [], [], [0], [48, 112], 176⟩, h := ⟨[(2, (.pvar 0 [])), (5, (.row 48)), (6, (.row 112)), (9, (.d cI))], [(0, (.d cHeap))], [(48, cI, true), (112, .bool, true)], 176⟩, xid := 4, oc := ⟨[], [5, 6], [], [], [], [48, 112], 176⟩, o := ⟨[(5, (.row 48)), (6, (.row 112))], [], [(48, cI, true), (112, .bool, true)], 176⟩, rc := ⟨[], [], [], [], [176], [], 176⟩, r := ⟨[], [], [], 176⟩, F := r15_From_l4 }
def r15_From_L5 : LoopSum := { hc := ⟨[], [5, 6, 13, 14], [(.tmp 13, cI)], [], [], [48, 112], 208⟩, h := ⟨[(5, (.row 48)), (6, (.row 112)), (13, (.row 208)), (14, (.d cI))], [], [(48, cI, true), (112, .bool, true), (208, cI, true)], 209⟩, xid := 10, oc := ⟨[], [13], [(.tmp 13, cI)], [], [], [], 208⟩, o := ⟨[(13, (.row 208))], [], [(208, cI, true)], 209⟩, rc := ⟨[], [], [], [], [208], [], 208⟩, r := ⟨[], [], [], 208⟩, F := r15_From_l5 }
def r15_From_c : Ctx := ⟨[(66, r08_List_sm), (71, r08_In_sm), (85, r08_Refs_sm)], [], [⟨8, 67, 0, 2, r15_From_L0⟩, ⟨8, 67, 0, 0, r15_From_L1⟩, ⟨8, 67, 0, 8, r15_From_L2⟩, ⟨8, 67, 0, 6, r15_From_L3⟩, ⟨8, 67, 0, 4, r15_From_L4⟩, ⟨8, 67, 0, 10, r15_From_L5⟩]⟩
theorem r15_From_sem : SemOf Tryz.prog 67 r15_From_sm := semC (c := r15_From_c) Tryz.func67 (sc r08_List_sem (sc r08_In_sem (sc r08_Refs_sem an))) an (ec (aeC [true, true, true, false, true, false, false, true, false, false, true, false, false] r15_From_s0 Tryz.func67) (ec (aeC [true, true, true, false, true, false, false] r15_From_s1 Tryz.func67) (ec (aeC [true, true, true, true, false, true, false, false, true, false, false, true, false, false, true, false, false, true, true, true, false, false] r15_From_s2 Tryz.func67) (ec (aeC [true, true, true, true, false, true, false, false, true, false, false, true, false, false] r15_From_s3 Tryz.func67) (ec (aeC [true, true, true, true, false, true, false, false] r15_From_s4 Tryz.func67) (ec (aeC [true, true, true, true, true, true, false, true, false, false] r15_From_s5 Tryz.func67) an)))))) 8
end
end Go.Proofs.YtkjpakaidjpjgaaGreatDoor.Den
