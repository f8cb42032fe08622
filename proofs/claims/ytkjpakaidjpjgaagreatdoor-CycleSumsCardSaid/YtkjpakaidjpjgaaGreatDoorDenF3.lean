/- What functions come to. Printed by a program of this session. -/
import Derived.Test.YtkjpakaidjpjgaaGreatDoorDenF2
namespace Go.Proofs.YtkjpakaidjpjgaaGreatDoor.Den
open Go
set_option maxRecDepth 100000
set_option linter.unusedVariables false
noncomputable section
abbrev slices_ConcatR_h0 : U := (.cons (.sl (.sl cRep)) (.cons cI (.cons (.sl (.sl cRep)) cVal)))
abbrev slices_ConcatR_o0 : U := (.cons (.sl (.sl cRep)) (.cons cI .nil))
abbrev slices_ConcatR_e0 : U := .nil
def slices_ConcatR_s0r (v0 : List (List Rep)) (v3 : Int) (v9 : List (List Rep)) (v10 : Int) (v11 : Int) : Option (SRes slices_ConcatR_h0 slices_ConcatR_o0 slices_ConcatR_e0) :=
 bif decide (v11 < v10) then
  bif decide (0 ≤ v11) then
   bif decide (v11 < (v9.length : Int)) then
    bif decide ((wi64 (v3 + ((v9.getD v11.toNat []).length : Int))) < 0) then none else
    some (.next (v0, wi64 (v3 + ((v9.getD v11.toNat []).length : Int)), v9, v10, wi64 (v11 + 1), ()))
   else none
  else none
 else
 some (.fin (.out (v0, v3, ())))
def slices_ConcatR_s0 (x : slices_ConcatR_h0.T) : Option (SRes slices_ConcatR_h0 slices_ConcatR_o0 slices_ConcatR_e0) := slices_ConcatR_s0r x.1 x.2.1 x.2.2.1 x.2.2.2.1 x.2.2.2.2.1
def slices_ConcatR_l0 (x : slices_ConcatR_h0.T) : Option (LRes slices_ConcatR_o0 slices_ConcatR_e0) := iterL slices_ConcatR_s0 9223372036854775808 x
abbrev slices_ConcatR_h1 : U := (.cons (.sl (.sl cRep)) (.cons cI (.cons cI (.cons (.sl cRep) .nil))))
abbrev slices_ConcatR_o1 : U := (.cons (.sl cRep) .nil)
abbrev slices_ConcatR_e1 : U := .nil
def slices_ConcatR_s1r (v25 : List (List Rep)) (v26 : Int) (v27 : Int) (r576 : List Rep) : Option (SRes slices_ConcatR_h1 slices_ConcatR_o1 slices_ConcatR_e1) :=
 bif decide (v27 < v26) then
  bif decide (0 ≤ v27) then
   bif decide (v27 < (v25.length : Int)) then
    bif decide ((r576.length + (v25.getD v27.toNat []).length) * 40 ≤ 140737488355328) then
     some (.next (v25, v26, wi64 (v27 + 1), r576 ++ (v25.getD v27.toNat []), ()))
    else none
   else none
  else none
 else
 some (.fin (.out (r576, ())))
def slices_ConcatR_s1 (x : slices_ConcatR_h1.T) : Option (SRes slices_ConcatR_h1 slices_ConcatR_o1 slices_ConcatR_e1) := slices_ConcatR_s1r x.1 x.2.1 x.2.2.1 x.2.2.2.1
def slices_ConcatR_l1 (x : slices_ConcatR_h1.T) : Option (LRes slices_ConcatR_o1 slices_ConcatR_e1) := iterL slices_ConcatR_s1 9223372036854775808 x
def slices_ConcatR_r (a0 : List (List Rep)) : Option ((List Rep) × Unit) :=
 (slices_ConcatR_l0 (a0, 0, a0, (a0.length : Int), 0, ())).bind fun s1 => match s1 with
 | .out s1 =>
  bif decide (s1.2.1 < 0) then none else
  bif decide ((wi64 (s1.2.1 - 0)) > 0) then
   bif decide (0 ≤ (wi64 (wi64 (s1.2.1 - 0)))) then
    bif decide ((wi64 (wi64 (s1.2.1 - 0))).toNat * 40 ≤ 140737488355328) then
     bif decide (0 ≤ ((List.replicate (wi64 (wi64 (s1.2.1 - 0))).toNat ((0, 0, 0, 0, 0, ()) : Rep)).length : Int)) then
      (slices_ConcatR_l1 (s1.1, (s1.1.length : Int), 0, ((List.replicate (wi64 (wi64 (s1.2.1 - 0))).toNat ((0, 0, 0, 0, 0, ()) : Rep)).drop 0).take 0, ())).bind fun s2 => match s2 with
      | .out s2 =>
       some (s2.1, ())
      | .ret s2 =>
       none
     else none
    else none
   else none
  else
  (slices_ConcatR_l1 (s1.1, (s1.1.length : Int), 0, [], ())).bind fun s3 => match s3 with
  | .out s3 =>
   some (s3.1, ())
  | .ret s3 =>
   none
 | .ret s1 =>
  none
def slices_ConcatR (x : (List (List Rep)) × Unit) : Option ((List Rep) × Unit) := slices_ConcatR_r x.1
def slices_ConcatR_sm : Sum := ⟨(.cons (.sl (.sl cRep)) .nil), (.cons (.own cRep) .nil), slices_ConcatR⟩
def slices_ConcatR_L0 : LoopSum := { hc := ⟨[], [0, 3, 9, 10, 11], [], [], [], [], 80⟩, h := ⟨[(0, (.d (.sl (.sl cRep)))), (3, (.d cI)), (9, (.d (.sl (.sl cRep)))), (10, (.d cI)), (11, (.d cI))], [], [], 80⟩, xid := 0, oc := ⟨[], [0, 3], [], [], [], [], 80⟩, o := ⟨[(0, (.d (.sl (.sl cRep)))), (3, (.d cI))], [], [], 80⟩, rc := ⟨[], [], [], [], [80], [], 80⟩, r := ⟨[], [], [], 80⟩, F := slices_ConcatR_l0 }
def slices_ConcatR_L1 : LoopSum := { hc := ⟨[], [6, 25, 26, 27], [(.tmp 6, cRep)], [], [], [], 576⟩, h := ⟨[(6, (.row 576)), (25, (.d (.sl (.sl cRep)))), (26, (.d cI)), (27, (.d cI))], [], [(576, cRep, true)], 577⟩, xid := 2, oc := ⟨[], [6], [(.tmp 6, cRep)], [], [], [], 576⟩, o := ⟨[(6, (.row 576))], [], [(576, cRep, true)], 577⟩, rc := ⟨[], [], [], [], [576], [], 576⟩, r := ⟨[], [], [], 576⟩, F := slices_ConcatR_l1 }
def slices_ConcatR_c : Ctx := ⟨[], [(282, Tryz.f282)], [⟨8, 218, 0, 0, slices_ConcatR_L0⟩, ⟨8, 218, 0, 2, slices_ConcatR_L1⟩]⟩
theorem slices_ConcatR_sem : SemOf Tryz.prog 218 slices_ConcatR_sm := semC (c := slices_ConcatR_c) Tryz.func218 an (fc (flC Tryz.func282) an) (ec (aeC [true, true, false, true, false, false] slices_ConcatR_s0 Tryz.func218) (ec (aeC [true, true, true, true, false, true, false, false] slices_ConcatR_s1 Tryz.func218) an)) 8
def cycle_marking_r (a0 : Wrld) : Option (Wrld × Int × Unit) :=
 (mark_Step (a0.2.1, a0.2.2.2.1, ())).bind fun y1 =>
 bif !y1.2.2.1 then
  some ((a0.1, y1.1, a0.2.2.1, y1.2.1, a0.2.2.2.2), 1, ())
 else
 (cycle_Tell (a0, ())).bind fun y2 =>
 (slices_ConcatR ([a0.2.2.2.2.2.2.2.1, [(y2.1.1, y2.1.2.1, y2.1.2.2.1, y2.1.2.2.2.1, y2.1.2.2.2.2.1, ())]], ())).bind fun y3 =>
 (sweep_Begin (a0.2.1, ())).bind fun y4 =>
 some ((a0.1, (y4.1.1, y4.1.2.1, y4.1.2.2), a0.2.2.1, ((0, [], ()), [], [], 0, 0, 0, false, ()), 2, a0.2.2.2.2.2.1, a0.2.2.2.2.2.2.1, y3.1, a0.2.2.2.2.2.2.2.2), 4, ())
def cycle_marking (x : Wrld × Unit) : Option (Wrld × Int × Unit) := cycle_marking_r x.1
def cycle_marking_sm : Sum := ⟨(.cons cWrld .nil), (.cons (.d cWrld) (.cons (.d cI) .nil)), cycle_marking⟩
def cycle_marking_c : Ctx := ⟨[(29, cycle_Tell_sm), (162, sweep_Begin_sm), (217, mark_Step_sm), (218, slices_ConcatR_sm)], [], []⟩
theorem cycle_marking_sem : SemOf Tryz.prog 149 cycle_marking_sm := semC (c := cycle_marking_c) Tryz.func149 (sc cycle_Tell_sem (sc sweep_Begin_sem (sc mark_Step_sem (sc slices_ConcatR_sem an)))) an an 8
def cycle_phases_r  : Option ((List (Int × Nat × Unit)) × Unit) :=
 some ([(0, 149, ()), (1, 150, ()), (2, 32, ())], ())
def cycle_phases (x : Unit) : Option ((List (Int × Nat × Unit)) × Unit) := cycle_phases_r 
def cycle_phases_sm : Sum := ⟨.nil, (.cons (.omap .fn) .nil), cycle_phases⟩
def cycle_phases_c : Ctx := ⟨[], [], []⟩
theorem cycle_phases_sem : SemOf Tryz.prog 76 cycle_phases_sm := semC (c := cycle_phases_c) Tryz.func76 an an an 8
def cycle_Marker_r (a0 : Wrld) : Option (Wrld × Int × Unit) :=
 bif 0 == a0.2.2.2.2.1 then
  (cycle_idle (a0, ())).bind fun y1 =>
  some (y1.1, y1.2.1, ())
 else
 bif 1 == a0.2.2.2.2.1 then
  (cycle_marking (a0, ())).bind fun y2 =>
  some (y2.1, y2.2.1, ())
 else
 bif 2 == a0.2.2.2.2.1 then
  (cycle_Sweeper (a0, ())).bind fun y3 =>
  some (y3.1, y3.2.1, ())
 else
 some (a0, 0, ())
def cycle_Marker (x : Wrld × Unit) : Option (Wrld × Int × Unit) := cycle_Marker_r x.1
def cycle_Marker_sm : Sum := ⟨(.cons cWrld .nil), (.cons (.d cWrld) (.cons (.d cI) .nil)), cycle_Marker⟩
def cycle_Marker_c : Ctx := ⟨[(31, cycle_Sweeper_sm), (76, cycle_phases_sm), (148, cycle_idle_sm), (149, cycle_marking_sm)], [], []⟩
theorem cycle_Marker_sem : SemOf Tryz.prog 26 cycle_Marker_sm := semC (c := cycle_Marker_c) Tryz.func26 (sc cycle_Sweeper_sem (sc cycle_phases_sem (sc cycle_idle_sem (sc cycle_marking_sem an)))) an an 8
abbrev r04_Blocks_h0 : U := (.cons cI cVal)
abbrev r04_Blocks_o0 : U := (.cons cI .nil)
abbrev r04_Blocks_e0 : U := .nil
def r04_Blocks_s0r (v0 : Int) (v3 : Int) (v4 : Int) : Option (SRes r04_Blocks_h0 r04_Blocks_o0 r04_Blocks_e0) :=
 bif decide (v4 < v0) then
  some (.next (v0, wi64 (v3.tdiv 2), wi64 (v4 + 1), ()))
 else
 some (.fin (.out (v3, ())))
def r04_Blocks_s0 (x : r04_Blocks_h0.T) : Option (SRes r04_Blocks_h0 r04_Blocks_o0 r04_Blocks_e0) := r04_Blocks_s0r x.1 x.2.1 x.2.2.1
def r04_Blocks_l0 (x : r04_Blocks_h0.T) : Option (LRes r04_Blocks_o0 r04_Blocks_e0) := iterL r04_Blocks_s0 9223372036854775808 x
def r04_Blocks_r (a0 : Int) : Option (Int × Unit) :=
 bif decide (a0 < 0) then
  some (0, ())
 else
 bif decide (a0 > 3) then
  some (0, ())
 else
 (r04_Blocks_l0 (a0, 16, 0, ())).bind fun s1 => match s1 with
 | .out s1 =>
  some (s1.1, ())
 | .ret s1 =>
  none
def r04_Blocks (x : Int × Unit) : Option (Int × Unit) := r04_Blocks_r x.1
def r04_Blocks_sm : Sum := ⟨(.cons cI .nil), (.cons (.d cI) .nil), r04_Blocks⟩
def r04_Blocks_L0 : LoopSum := { hc := ⟨[], [0, 3, 4], [], [], [], [], 144⟩, h := ⟨[(0, (.d cI)), (3, (.d cI)), (4, (.d cI))], [], [], 144⟩, xid := 0, oc := ⟨[], [3], [], [], [], [], 144⟩, o := ⟨[(3, (.d cI))], [], [], 144⟩, rc := ⟨[], [], [], [], [144], [], 144⟩, r := ⟨[], [], [], 144⟩, F := r04_Blocks_l0 }
def r04_Blocks_c : Ctx := ⟨[], [], [⟨8, 83, 0, 0, r04_Blocks_L0⟩]⟩
theorem r04_Blocks_sem : SemOf Tryz.prog 83 r04_Blocks_sm := semC (c := r04_Blocks_c) Tryz.func83 an an (ec (aeC [true, true, true, false, true, false, false] r04_Blocks_s0 Tryz.func83) an) 8
abbrev r07_with_h0 : U := (.cons cI (.cons cI (.cons cHeap (.cons cSpan (.cons (.cons .bool .nil) (.cons (.cons .bool .nil) (.cons (.sl (.int .u64)) (.cons (.sl cSpan) .nil))))))))
abbrev r07_with_o0 : U := (.cons (.cons .bool .nil) (.cons (.cons .bool .nil) (.cons (.sl (.int .u64)) (.cons (.sl cSpan) .nil))))
abbrev r07_with_e0 : U := .nil
def r07_with_s0r (v1 : Int) (v8 : Int) (c0 : Heap) (c16 : Span) (c32 : Bool × Unit) (c96 : Bool × Unit) (r192 : List Int) (r256 : List Span) : Option (SRes r07_with_h0 r07_with_o0 r07_with_e0) :=
 bif decide (v8 < (c0.2.1.length : Int)) then
  bif decide (0 ≤ v8) then
   bif decide (v8 < (c0.2.1.length : Int)) then
    bif v8 == v1 then
     bif decide ((r256.length + 1) * 24 ≤ 140737488355328) then
      some (.next (v1, wi64 (v8 + 1), c0, c16, c32, c96, r192, r256 ++ [c16], ()))
     else none
    else
    bif decide ((r256.length + 1) * 24 ≤ 140737488355328) then
     some (.next (v1, wi64 (v8 + 1), c0, c16, c32, c96, r192, r256 ++ [c0.2.1.getD v8.toNat (0, 0, 0, ())], ()))
    else none
   else none
  else none
 else
 some (.fin (.out (c32, c96, r192, r256, ())))
def r07_with_s0 (x : r07_with_h0.T) : Option (SRes r07_with_h0 r07_with_o0 r07_with_e0) := r07_with_s0r x.1 x.2.1 x.2.2.1 x.2.2.2.1 x.2.2.2.2.1 x.2.2.2.2.2.1 x.2.2.2.2.2.2.1 x.2.2.2.2.2.2.2.1
def r07_with_l0 (x : r07_with_h0.T) : Option (LRes r07_with_o0 r07_with_e0) := iterL r07_with_s0 9223372036854775808 x
def r07_with_r (a0 : Heap) (a1 : Int) (a2 : Span) : Option (Heap × Unit) :=
 bif decide (a0.1.length * 8 ≤ 140737488355328) then
  (r07_with_l0 (a1, 0, a0, a2, (false, ()), (a0.2.2.1, ()), a0.1, [], ())).bind fun s1 => match s1 with
  | .out s1 =>
   some ((s1.2.2.1, s1.2.2.2.1, s1.2.1), ())
  | .ret s1 =>
   none
 else none
def r07_with (x : Heap × Int × Span × Unit) : Option (Heap × Unit) := r07_with_r x.1 x.2.1 x.2.2.1
def r07_with_sm : Sum := ⟨(.cons cHeap (.cons cI (.cons cSpan .nil))), (.cons (.cons (.own (.int .u64)) (.cons (.own cSpan) (.d (.cons .bool .nil)))) .nil), r07_with⟩
def r07_with_L0 : LoopSum := { hc := ⟨[], [1, 3, 5, 6, 7, 8], [(.key 96 [.fld 1], cSpan)], [], [0, 16, 32, 96], [192], 256⟩, h := ⟨[(1, (.d cI)), (3, (.pvar 0 [])), (5, (.pvar 16 [])), (6, (.pvar 32 [])), (7, (.pvar 96 [])), (8, (.d cI))], [(0, (.d cHeap)), (16, (.d cSpan)), (32, (.cons .nilsl (.cons .nilsl (.d (.cons .bool .nil))))), (96, (.cons (.row 192) (.cons (.row 256) (.d (.cons .bool .nil)))))], [(192, (.int .u64), true), (256, cSpan, true)], 257⟩, xid := 0, oc := ⟨[], [6, 7], [(.ptr 7 [.fld 1], cSpan)], [], [32, 96], [192], 256⟩, o := ⟨[(6, (.pvar 32 [])), (7, (.pvar 96 []))], [(32, (.cons .nilsl (.cons .nilsl (.d (.cons .bool .nil))))), (96, (.cons (.row 192) (.cons (.row 256) (.d (.cons .bool .nil)))))], [(192, (.int .u64), true), (256, cSpan, true)], 257⟩, rc := ⟨[], [], [], [], [256], [], 256⟩, r := ⟨[], [], [], 256⟩, F := r07_with_l0 }
def r07_with_c : Ctx := ⟨[], [], [⟨8, 191, 0, 0, r07_with_L0⟩]⟩
theorem r07_with_sem : SemOf Tryz.prog 191 r07_with_sm := semC (c := r07_with_c) Tryz.func191 an an (ec (aeC [true, true, true, false, true, false, false] r07_with_s0 Tryz.func191) an) 8
abbrev r03_Of_h0 : U := (.cons (.int .u32) (.cons cI (.cons (.arr 32 .bool) .nil)))
abbrev r03_Of_o0 : U := (.cons (.int .u32) .nil)
abbrev r03_Of_e0 : U := .nil
def r03_Of_s0r (v3 : Int) (v4 : Int) (c0 : List Bool) : Option (SRes r03_Of_h0 r03_Of_o0 r03_Of_e0) :=
 bif decide (v4 ≥ 0) then
  bif decide (0 ≤ v4) then
   bif decide (v4 < 32) then
    bif c0.getD v4.toNat false then
     some (.next (wu32 ((wu32 (2 * v3)) + 1), wi64 (v4 - 1), c0, ()))
    else
    some (.next (wu32 (2 * v3), wi64 (v4 - 1), c0, ()))
   else none
  else none
 else
 some (.fin (.out (v3, ())))
def r03_Of_s0 (x : r03_Of_h0.T) : Option (SRes r03_Of_h0 r03_Of_o0 r03_Of_e0) := r03_Of_s0r x.1 x.2.1 x.2.2.1
def r03_Of_l0 (x : r03_Of_h0.T) : Option (LRes r03_Of_o0 r03_Of_e0) := iterL r03_Of_s0 9223372036854775808 x
def r03_Of_r (a0 : List Bool) : Option (Int × Unit) :=
 (r03_Of_l0 (0, 31, a0, ())).bind fun s1 => match s1 with
 | .out s1 =>
  some (s1.1, ())
 | .ret s1 =>
  none
def r03_Of (x : (List Bool) × Unit) : Option (Int × Unit) := r03_Of_r x.1
def r03_Of_sm : Sum := ⟨(.cons (.arr 32 .bool) .nil), (.cons (.d (.int .u32)) .nil), r03_Of⟩
def r03_Of_L0 : LoopSum := { hc := ⟨[], [1, 3, 4], [], [], [0], [], 64⟩, h := ⟨[(1, (.pvar 0 [])), (3, (.d (.int .u32))), (4, (.d cI))], [(0, (.d (.arr 32 .bool)))], [], 64⟩, xid := 0, oc := ⟨[], [3], [], [], [], [], 64⟩, o := ⟨[(3, (.d (.int .u32)))], [], [], 64⟩, rc := ⟨[], [], [], [], [64], [], 64⟩, r := ⟨[], [], [], 64⟩, F := r03_Of_l0 }
def r03_Of_c : Ctx := ⟨[], [], [⟨8, 254, 0, 0, r03_Of_L0⟩]⟩
theorem r03_Of_sem : SemOf Tryz.prog 254 r03_Of_sm := semC (c := r03_Of_c) Tryz.func254 an an (ec (aeC [true, true, false, true, false, false] r03_Of_s0 Tryz.func254) an) 8
abbrev r03_Whole_h0 : U := (.cons cI (.cons cI (.cons (.arr 32 .bool) .nil)))
abbrev r03_Whole_o0 : U := (.cons (.arr 32 .bool) .nil)
abbrev r03_Whole_e0 : U := .nil
def r03_Whole_s0r (v0 : Int) (v4 : Int) (c16 : List Bool) : Option (SRes r03_Whole_h0 r03_Whole_o0 r03_Whole_e0) :=
 bif decide (v4 < 32) then
  bif decide (0 ≤ v4) then
   bif decide (v4 < 32) then
    some (.next (v0, wi64 (v4 + 1), c16.set v4.toNat (decide (v4 < v0)), ()))
   else none
  else none
 else
 some (.fin (.out (c16, ())))
def r03_Whole_s0 (x : r03_Whole_h0.T) : Option (SRes r03_Whole_h0 r03_Whole_o0 r03_Whole_e0) := r03_Whole_s0r x.1 x.2.1 x.2.2.1
def r03_Whole_l0 (x : r03_Whole_h0.T) : Option (LRes r03_Whole_o0 r03_Whole_e0) := iterL r03_Whole_s0 9223372036854775808 x
def r03_Whole_r (a0 : Int) : Option (Int × Unit) :=
 (r03_Whole_l0 (a0, 0, List.replicate 32 false, ())).bind fun s1 => match s1 with
 | .out s1 =>
  (r03_Of (s1.1, ())).bind fun y2 =>
  some (y2.1, ())
 | .ret s1 =>
  none
def r03_Whole (x : Int × Unit) : Option (Int × Unit) := r03_Whole_r x.1
def r03_Whole_sm : Sum := ⟨(.cons cI .nil), (.cons (.d (.int .u32)) .nil), r03_Whole⟩
def r03_Whole_L0 : LoopSum := { hc := ⟨[], [0, 3, 4], [], [], [16], [], 48⟩, h := ⟨[(0, (.d cI)), (3, (.pvar 16 [])), (4, (.d cI))], [(16, (.d (.arr 32 .bool)))], [], 48⟩, xid := 0, oc := ⟨[], [3], [], [], [16], [], 48⟩, o := ⟨[(3, (.pvar 16 []))], [(16, (.d (.arr 32 .bool)))], [], 48⟩, rc := ⟨[], [], [], [], [48], [], 48⟩, r := ⟨[], [], [], 48⟩, F := r03_Whole_l0 }
def r03_Whole_c : Ctx := ⟨[(254, r03_Of_sm)], [], [⟨8, 192, 0, 0, r03_Whole_L0⟩]⟩
theorem r03_Whole_sem : SemOf Tryz.prog 192 r03_Whole_sm := semC (c := r03_Whole_c) Tryz.func192 (sc r03_Of_sem an) an (ec (aeC [true, true, false, true, false, false] r03_Whole_s0 Tryz.func192) an) 8
def r07_Open_r (a0 : Heap) (a1 : Int) (a2 : Int) : Option (Heap × Bool × Unit) :=
 bif decide (a1 < 0) then
  some (a0, false, ())
 else
 bif decide (a1 ≥ (a0.2.1.length : Int)) then
  some (a0, false, ())
 else
 bif decide (a2 < 0) then
  some (a0, false, ())
 else
 bif decide (a2 > 3) then
  some (a0, false, ())
 else
 bif decide (0 ≤ a1) then
  bif decide (a1 < (a0.2.1.length : Int)) then
   bif (a0.2.1.getD a1.toNat (0, 0, 0, ())).1 != 0 then
    some (a0, false, ())
   else
   (r04_Blocks (a2, ())).bind fun y1 =>
   (r03_Whole (y1.1, ())).bind fun y2 =>
   (r07_with (a0, a1, (1, a2, y2.1, ()), ())).bind fun y3 =>
   some ((y3.1.1, y3.1.2.1, y3.1.2.2), true, ())
  else none
 else none
def r07_Open (x : Heap × Val) : Option (Heap × Bool × Unit) := r07_Open_r x.1 x.2.1 x.2.2.1
def r07_Open_sm : Sum := ⟨(.cons cHeap cVal), (.cons (.d cHeap) (.cons (.d .bool) .nil)), r07_Open⟩
def r07_Open_c : Ctx := ⟨[(83, r04_Blocks_sm), (191, r07_with_sm), (192, r03_Whole_sm)], [], []⟩
theorem r07_Open_sem : SemOf Tryz.prog 115 r07_Open_sm := semC (c := r07_Open_c) Tryz.func115 (sc r04_Blocks_sem (sc r07_with_sem (sc r03_Whole_sem an))) an an 8
abbrev r04_Words_h0 : U := (.cons cI cVal)
abbrev r04_Words_o0 : U := (.cons cI .nil)
abbrev r04_Words_e0 : U := .nil
def r04_Words_s0r (v0 : Int) (v3 : Int) (v4 : Int) : Option (SRes r04_Words_h0 r04_Words_o0 r04_Words_e0) :=
 bif decide (v4 < v0) then
  some (.next (v0, wi64 (2 * v3), wi64 (v4 + 1), ()))
 else
 some (.fin (.out (v3, ())))
def r04_Words_s0 (x : r04_Words_h0.T) : Option (SRes r04_Words_h0 r04_Words_o0 r04_Words_e0) := r04_Words_s0r x.1 x.2.1 x.2.2.1
def r04_Words_l0 (x : r04_Words_h0.T) : Option (LRes r04_Words_o0 r04_Words_e0) := iterL r04_Words_s0 9223372036854775808 x
def r04_Words_r (a0 : Int) : Option (Int × Unit) :=
 bif decide (a0 < 0) then
  some (0, ())
 else
 bif decide (a0 > 3) then
  some (0, ())
 else
 (r04_Words_l0 (a0, 2, 0, ())).bind fun s1 => match s1 with
 | .out s1 =>
  some (s1.1, ())
 | .ret s1 =>
  none
def r04_Words (x : Int × Unit) : Option (Int × Unit) := r04_Words_r x.1
def r04_Words_sm : Sum := ⟨(.cons cI .nil), (.cons (.d cI) .nil), r04_Words⟩
def r04_Words_L0 : LoopSum := { hc := ⟨[], [0, 3, 4], [], [], [], [], 144⟩, h := ⟨[(0, (.d cI)), (3, (.d cI)), (4, (.d cI))], [], [], 144⟩, xid := 0, oc := ⟨[], [3], [], [], [], [], 144⟩, o := ⟨[(3, (.d cI))], [], [], 144⟩, rc := ⟨[], [], [], [], [144], [], 144⟩, r := ⟨[], [], [], 144⟩, F := r04_Words_l0 }
def r04_Words_c : Ctx := ⟨[], [], [⟨8, 82, 0, 0, r04_Words_L0⟩]⟩
theorem r04_Words_sem : SemOf Tryz.prog 82 r04_Words_sm := semC (c := r04_Words_c) Tryz.func82 an an (ec (aeC [true, true, true, false, true, false, false] r04_Words_s0 Tryz.func82) an) 8
abbrev r03_Has_h0 : U := (.cons (.int .u32) cVal)
abbrev r03_Has_o0 : U := (.cons (.int .u32) .nil)
abbrev r03_Has_e0 : U := .nil
def r03_Has_s0r (v0 : Int) (v1 : Int) (v5 : Int) : Option (SRes r03_Has_h0 r03_Has_o0 r03_Has_e0) :=
 bif decide (v5 < v1) then
  some (.next (wu32 (v0.tdiv 2), v1, wi64 (v5 + 1), ()))
 else
 some (.fin (.out (v0, ())))
def r03_Has_s0 (x : r03_Has_h0.T) : Option (SRes r03_Has_h0 r03_Has_o0 r03_Has_e0) := r03_Has_s0r x.1 x.2.1 x.2.2.1
def r03_Has_l0 (x : r03_Has_h0.T) : Option (LRes r03_Has_o0 r03_Has_e0) := iterL r03_Has_s0 9223372036854775808 x
def r03_Has_r (a0 : Int) (a1 : Int) : Option (Bool × Unit) :=
 bif decide (a1 < 0) then
  some (false, ())
 else
 bif decide (a1 > 31) then
  some (false, ())
 else
 (r03_Has_l0 (a0, a1, 0, ())).bind fun s1 => match s1 with
 | .out s1 =>
  some ((s1.1.tmod 2) == 1, ())
 | .ret s1 =>
  none
def r03_Has (x : Int × Int × Unit) : Option (Bool × Unit) := r03_Has_r x.1 x.2.1
def r03_Has_sm : Sum := ⟨(.cons (.int .u32) (.cons cI .nil)), (.cons (.d .bool) .nil), r03_Has⟩
def r03_Has_L0 : LoopSum := { hc := ⟨[], [0, 1, 5], [], [], [], [], 128⟩, h := ⟨[(0, (.d (.int .u32))), (1, (.d cI)), (5, (.d cI))], [], [], 128⟩, xid := 0, oc := ⟨[], [0], [], [], [], [], 128⟩, o := ⟨[(0, (.d (.int .u32)))], [], [], 128⟩, rc := ⟨[], [], [], [], [128], [], 128⟩, r := ⟨[], [], [], 128⟩, F := r03_Has_l0 }
def r03_Has_c : Ctx := ⟨[], [], [⟨8, 84, 0, 0, r03_Has_L0⟩]⟩
theorem r03_Has_sem : SemOf Tryz.prog 84 r03_Has_sm := semC (c := r03_Has_c) Tryz.func84 an an (ec (aeC [true, true, false, true, false, false] r03_Has_s0 Tryz.func84) an) 8
abbrev r03_turned_h0 : U := (.cons (.int .u32) (.cons cI (.cons .bool (.cons cI (.cons (.arr 32 .bool) .nil)))))
abbrev r03_turned_o0 : U := (.cons cI (.cons .bool (.cons (.arr 32 .bool) .nil)))
abbrev r03_turned_e0 : U := .nil
def r03_turned_s0r (v0 : Int) (v1 : Int) (v2 : Bool) (v8 : Int) (c16 : List Bool) : Option (SRes r03_turned_h0 r03_turned_o0 r03_turned_e0) :=
 bif decide (v8 < 32) then
  (r03_Has (v0, v8, ())).bind fun y1 =>
  bif decide (0 ≤ v8) then
   bif decide (v8 < 32) then
    some (.next (v0, v1, v2, wi64 (v8 + 1), c16.set v8.toNat y1.1, ()))
   else none
  else none
 else
 some (.fin (.out (v1, v2, c16, ())))
def r03_turned_s0 (x : r03_turned_h0.T) : Option (SRes r03_turned_h0 r03_turned_o0 r03_turned_e0) := r03_turned_s0r x.1 x.2.1 x.2.2.1 x.2.2.2.1 x.2.2.2.2.1
def r03_turned_l0 (x : r03_turned_h0.T) : Option (LRes r03_turned_o0 r03_turned_e0) := iterL r03_turned_s0 9223372036854775808 x
def r03_turned_r (a0 : Int) (a1 : Int) (a2 : Bool) : Option (Int × Unit) :=
 (r03_turned_l0 (a0, a1, a2, 0, List.replicate 32 false, ())).bind fun s2 => match s2 with
 | .out s2 =>
  bif decide (s2.1 ≥ 0) then
   bif decide (s2.1 < 32) then
    bif decide (0 ≤ s2.1) then
     bif decide (s2.1 < 32) then
      (r03_Of (s2.2.2.1.set s2.1.toNat s2.2.1, ())).bind fun y3 =>
      some (y3.1, ())
     else none
    else none
   else
   (r03_Of (s2.2.2.1, ())).bind fun y4 =>
   some (y4.1, ())
  else
  (r03_Of (s2.2.2.1, ())).bind fun y5 =>
  some (y5.1, ())
 | .ret s2 =>
  none
def r03_turned (x : Int × Int × Bool × Unit) : Option (Int × Unit) := r03_turned_r x.1 x.2.1 x.2.2.1
def r03_turned_sm : Sum := ⟨(.cons (.int .u32) (.cons cI (.cons .bool .nil))), (.cons (.d (.int .u32)) .nil), r03_turned⟩
def r03_turned_L0 : LoopSum := { hc := ⟨[], [0, 1, 2, 7, 8], [], [], [16], [], 48⟩, h := ⟨[(0, (.d (.int .u32))), (1, (.d cI)), (2, (.d .bool)), (7, (.pvar 16 [])), (8, (.d cI))], [(16, (.d (.arr 32 .bool)))], [], 48⟩, xid := 0, oc := ⟨[], [1, 2, 7], [], [], [16], [], 48⟩, o := ⟨[(1, (.d cI)), (2, (.d .bool)), (7, (.pvar 16 []))], [(16, (.d (.arr 32 .bool)))], [], 48⟩, rc := ⟨[], [], [], [], [48], [], 48⟩, r := ⟨[], [], [], 48⟩, F := r03_turned_l0 }
def r03_turned_c : Ctx := ⟨[(84, r03_Has_sm), (254, r03_Of_sm)], [], [⟨8, 301, 0, 0, r03_turned_L0⟩]⟩
theorem r03_turned_sem : SemOf Tryz.prog 301 r03_turned_sm := semC (c := r03_turned_c) Tryz.func301 (sc r03_Has_sem (sc r03_Of_sem an)) an (ec (aeC [true, true, false, true, false, false] r03_turned_s0 Tryz.func301) an) 8
def r03_Without_r (a0 : Int) (a1 : Int) : Option (Int × Unit) :=
 (r03_turned (a0, a1, false, ())).bind fun y1 =>
 some (y1.1, ())
def r03_Without (x : Int × Int × Unit) : Option (Int × Unit) := r03_Without_r x.1 x.2.1
def r03_Without_sm : Sum := ⟨(.cons (.int .u32) (.cons cI .nil)), (.cons (.d (.int .u32)) .nil), r03_Without⟩
def r03_Without_c : Ctx := ⟨[(301, r03_turned_sm)], [], []⟩
theorem r03_Without_sem : SemOf Tryz.prog 255 r03_Without_sm := semC (c := r03_Without_c) Tryz.func255 (sc r03_turned_sem an) an an 8
abbrev r06_Take_h0 : U := (.cons cI (.cons cSpan (.cons cSpan .nil)))
abbrev r06_Take_o0 : U := (.cons cSpan (.cons cSpan .nil))
abbrev r06_Take_e0 : U := (.cons cI (.cons .bool (.cons cSpan .nil)))
def r06_Take_s0r (v5 : Int) (c0 : Span) (c16 : Span) : Option (SRes r06_Take_h0 r06_Take_o0 r06_Take_e0) :=
 bif decide (v5 < 16) then
  bif c0.1 == 1 then
   (r03_Has (c0.2.2.1, v5, ())).bind fun y1 =>
   bif y1.1 then
    (r03_Without (c0.2.2.1, v5, ())).bind fun y2 =>
    some (.fin (.ret (v5, true, (c0.1, c0.2.1, y2.1, c0.2.2.2), ())))
   else
   some (.next (wi64 (v5 + 1), c0, c16, ()))
  else
  some (.fin (.out (c0, c16, ())))
 else
 some (.fin (.out (c0, c16, ())))
def r06_Take_s0 (x : r06_Take_h0.T) : Option (SRes r06_Take_h0 r06_Take_o0 r06_Take_e0) := r06_Take_s0r x.1 x.2.1 x.2.2.1
def r06_Take_l0 (x : r06_Take_h0.T) : Option (LRes r06_Take_o0 r06_Take_e0) := iterL r06_Take_s0 9223372036854775808 x
def r06_Take_r (a0 : Span) : Option (Span × Int × Bool × Unit) :=
 (r06_Take_l0 (0, a0, (0, 0, 0, ()), ())).bind fun s3 => match s3 with
 | .out s3 =>
  some (s3.1, 0, false, ())
 | .ret s3 =>
  some (s3.2.2.1, s3.1, s3.2.1, ())
def r06_Take (x : Span × Unit) : Option (Span × Int × Bool × Unit) := r06_Take_r x.1
def r06_Take_sm : Sum := ⟨(.cons cSpan .nil), (.cons (.d cSpan) (.cons (.d cI) (.cons (.d .bool) .nil))), r06_Take⟩
def r06_Take_L0 : LoopSum := { hc := ⟨[], [1, 2, 5], [], [], [0, 16], [], 80⟩, h := ⟨[(1, (.pvar 0 [])), (2, (.pvar 16 [])), (5, (.d cI))], [(0, (.d cSpan)), (16, (.d cSpan))], [], 80⟩, xid := 0, oc := ⟨[], [1, 2], [], [], [0, 16], [], 80⟩, o := ⟨[(1, (.pvar 0 [])), (2, (.pvar 16 []))], [(0, (.d cSpan)), (16, (.d cSpan))], [], 80⟩, rc := ⟨[], [2, 3, 4], [], [], [16], [], 80⟩, r := ⟨[(2, (.pvar 16 [])), (3, (.d cI)), (4, (.d .bool))], [(16, (.d cSpan))], [], 80⟩, F := r06_Take_l0 }
def r06_Take_c : Ctx := ⟨[(84, r03_Has_sm), (255, r03_Without_sm)], [], [⟨8, 193, 0, 0, r06_Take_L0⟩]⟩
theorem r06_Take_sem : SemOf Tryz.prog 193 r06_Take_sm := semC (c := r06_Take_c) Tryz.func193 (sc r03_Has_sem (sc r03_Without_sem an)) an (ec (aeC [true, false, true, false, false] r06_Take_s0 Tryz.func193) an) 8
def r05_Address_r (a0 : Int) (a1 : Int) (a2 : Int) : Option (Int × Bool × Unit) :=
 bif decide (a0 < 0) then
  some (0, false, ())
 else
 bif decide (a0 > 15) then
  some (0, false, ())
 else
 bif decide (a2 < 0) then
  some (0, false, ())
 else
 (r04_Blocks (a1, ())).bind fun y1 =>
 bif decide (a2 ≥ y1.1) then
  some (0, false, ())
 else
 (r04_Words (a1, ())).bind fun y2 =>
 some (wi64 ((wi64 (32 * a0)) + (wi64 (a2 * y2.1))), true, ())
def r05_Address (x : Int × Val) : Option (Int × Bool × Unit) := r05_Address_r x.1 x.2.1 x.2.2.1
def r05_Address_sm : Sum := ⟨(.cons cI cVal), (.cons (.d cI) (.cons (.d .bool) .nil)), r05_Address⟩
def r05_Address_c : Ctx := ⟨[(82, r04_Words_sm), (83, r04_Blocks_sm)], [], []⟩
theorem r05_Address_sem : SemOf Tryz.prog 194 r05_Address_sm := semC (c := r05_Address_c) Tryz.func194 (sc r04_Words_sem (sc r04_Blocks_sem an)) an an 8
def r02_Put_r (a0 : Hdr) : Option (Int × Unit) :=
 bif !a0.1 then
  some (0, ())
 else
 bif a0.2.1 then
  some (wu64 (wi64 ((wi64 ((wi64 (128 + (wi64 (16 * a0.2.2.1)))) + a0.2.2.2.1)) + 64)), ())
 else
 some (wu64 (wi64 ((wi64 (128 + (wi64 (16 * a0.2.2.1)))) + a0.2.2.2.1)), ())
def r02_Put (x : Hdr × Unit) : Option (Int × Unit) := r02_Put_r x.1
def r02_Put_sm : Sum := ⟨(.cons cHdr .nil), (.cons (.d (.int .u64)) .nil), r02_Put⟩
def r02_Put_c : Ctx := ⟨[], [], []⟩
theorem r02_Put_sem : SemOf Tryz.prog 195 r02_Put_sm := semC (c := r02_Put_c) Tryz.func195 an an an 8
abbrev r07_Lay_h0 : U := (.cons cI (.cons cI (.cons cI (.cons cHeap (.cons (.cons .bool .nil) (.cons cSpan (.cons (.cons .bool .nil) (.cons (.sl (.int .u64)) (.cons (.sl cSpan) .nil)))))))))
abbrev r07_Lay_o0 : U := (.cons cI (.cons cI (.cons cHeap (.cons (.cons .bool .nil) (.cons cSpan (.cons (.cons .bool .nil) (.cons (.sl (.int .u64)) (.cons (.sl cSpan) .nil))))))))
abbrev r07_Lay_e0 : U := .nil
def r07_Lay_s0r (v2 : Int) (v13 : Int) (v15 : Int) (c0 : Heap) (c16 : Bool × Unit) (c608 : Span) (c768 : Bool × Unit) (r752 : List Int) (r753 : List Span) : Option (SRes r07_Lay_h0 r07_Lay_o0 r07_Lay_e0) :=
 (r04_Words (c608.2.1, ())).bind fun y5 =>
 bif decide (v15 < y5.1) then
  bif decide (0 ≤ (wi64 (v13 + v15))) then
   bif decide ((wi64 (v13 + v15)) < (r752.length : Int)) then
    some (.next (v2, v13, wi64 (v15 + 1), c0, c16, c608, c768, r752.set (wi64 (v13 + v15)).toNat 0, r753, ()))
   else none
  else none
 else
 some (.fin (.out (v2, v13, c0, c16, c608, c768, r752, r753, ())))
def r07_Lay_s0 (x : r07_Lay_h0.T) : Option (SRes r07_Lay_h0 r07_Lay_o0 r07_Lay_e0) := r07_Lay_s0r x.1 x.2.1 x.2.2.1 x.2.2.2.1 x.2.2.2.2.1 x.2.2.2.2.2.1 x.2.2.2.2.2.2.1 x.2.2.2.2.2.2.2.1 x.2.2.2.2.2.2.2.2.1
def r07_Lay_l0 (x : r07_Lay_h0.T) : Option (LRes r07_Lay_o0 r07_Lay_e0) := iterL r07_Lay_s0 9223372036854775808 x
def r07_Lay_r (a0 : Heap) (a1 : Int) (a2 : Int) : Option (Heap × Int × Bool × Unit) :=
 bif decide (a1 < 0) then
  some (a0, 0, false, ())
 else
 bif decide (a1 ≥ (a0.2.1.length : Int)) then
  some (a0, 0, false, ())
 else
 bif decide (a2 < 0) then
  some (a0, 0, false, ())
 else
 bif decide (0 ≤ a1) then
  bif decide (a1 < (a0.2.1.length : Int)) then
   (r04_Words ((a0.2.1.getD a1.toNat (0, 0, 0, ())).2.1, ())).bind fun y1 =>
   bif decide (a2 ≥ y1.1) then
    some (a0, 0, false, ())
   else
   bif decide (0 ≤ a1) then
    bif decide (a1 < (a0.2.1.length : Int)) then
     (r06_Take (a0.2.1.getD a1.toNat (0, 0, 0, ()), ())).bind fun y2 =>
     bif !y2.2.2.1 then
      some (a0, 0, false, ())
     else
     (r07_with (a0, a1, y2.1, ())).bind fun y3 =>
     (r05_Address (a1, y2.1.2.1, y2.2.1, ())).bind fun y4 =>
     (r07_Lay_l0 (a2, y4.1, 0, a0, (false, ()), y2.1, y3.1.2.2, y3.1.1, y3.1.2.1, ())).bind fun s6 => match s6 with
     | .out s6 =>
      (r02_Put ((true, s6.2.2.1.2.2.1, s6.2.2.2.2.1.2.1, s6.1, ()), ())).bind fun y7 =>
      bif decide (0 ≤ s6.2.1) then
       bif decide (s6.2.1 < (s6.2.2.2.2.2.2.1.length : Int)) then
        some ((s6.2.2.2.2.2.2.1.set s6.2.1.toNat y7.1, s6.2.2.2.2.2.2.2.1, s6.2.2.2.2.2.1), s6.2.1, true, ())
       else none
      else none
     | .ret s6 =>
      none
    else none
   else none
  else none
 else none
def r07_Lay (x : Heap × Val) : Option (Heap × Int × Bool × Unit) := r07_Lay_r x.1 x.2.1 x.2.2.1
def r07_Lay_sm : Sum := ⟨(.cons cHeap cVal), (.cons (.d cHeap) (.cons (.d cI) (.cons (.d .bool) .nil))), r07_Lay⟩
def r07_Lay_L0 : LoopSum := { hc := ⟨[], [2, 3, 6, 9, 12, 13, 15], [], [], [0, 16, 608, 768], [752, 753], 976⟩, h := ⟨[(2, (.d cI)), (3, (.pvar 0 [])), (6, (.pvar 16 [])), (9, (.pvar 608 [])), (12, (.pvar 768 [])), (13, (.d cI)), (15, (.d cI))], [(0, (.d cHeap)), (16, (.cons .nilsl (.cons .nilsl (.d (.cons .bool .nil))))), (608, (.d cSpan)), (768, (.cons (.row 752) (.cons (.row 753) (.d (.cons .bool .nil)))))], [(752, (.int .u64), true), (753, cSpan, true)], 976⟩, xid := 0, oc := ⟨[], [2, 3, 6, 9, 12, 13], [], [], [0, 16, 608, 768], [752, 753], 976⟩, o := ⟨[(2, (.d cI)), (3, (.pvar 0 [])), (6, (.pvar 16 [])), (9, (.pvar 608 [])), (12, (.pvar 768 [])), (13, (.d cI))], [(0, (.d cHeap)), (16, (.cons .nilsl (.cons .nilsl (.d (.cons .bool .nil))))), (608, (.d cSpan)), (768, (.cons (.row 752) (.cons (.row 753) (.d (.cons .bool .nil)))))], [(752, (.int .u64), true), (753, cSpan, true)], 976⟩, rc := ⟨[], [], [], [], [976], [], 976⟩, r := ⟨[], [], [], 976⟩, F := r07_Lay_l0 }
def r07_Lay_c : Ctx := ⟨[(82, r04_Words_sm), (191, r07_with_sm), (193, r06_Take_sm), (194, r05_Address_sm), (195, r02_Put_sm)], [], [⟨8, 116, 0, 0, r07_Lay_L0⟩]⟩
theorem r07_Lay_sem : SemOf Tryz.prog 116 r07_Lay_sm := semC (c := r07_Lay_c) Tryz.func116 (sc r04_Words_sem (sc r07_with_sem (sc r06_Take_sem (sc r05_Address_sem (sc r02_Put_sem an))))) an (ec (aeC [true, true, true, true, true, true, false, true, false, false] r07_Lay_s0 Tryz.func116) an) 8
abbrev r07_Find_h0 : U := (.cons cI (.cons cI (.cons cI (.cons cHeap .nil))))
abbrev r07_Find_o0 : U := (.cons cI (.cons cI (.cons cHeap .nil)))
abbrev r07_Find_e0 : U := (.cons cI (.cons cI (.cons .bool .nil)))
def r07_Find_s0r (v1 : Int) (v7 : Int) (v8 : Int) (c0 : Heap) : Option (SRes r07_Find_h0 r07_Find_o0 r07_Find_e0) :=
 bif decide (0 ≤ v7) then
  bif decide (v7 < (c0.2.1.length : Int)) then
   (r04_Blocks ((c0.2.1.getD v7.toNat (0, 0, 0, ())).2.1, ())).bind fun y1 =>
   bif decide (v8 < y1.1) then
    bif decide (0 ≤ v7) then
     bif decide (v7 < (c0.2.1.length : Int)) then
      (r04_Words ((c0.2.1.getD v7.toNat (0, 0, 0, ())).2.1, ())).bind fun y2 =>
      bif (wi64 ((wi64 (32 * v7)) + (wi64 (v8 * y2.1)))) == v1 then
       some (.fin (.ret (v7, v8, true, ())))
      else
      some (.next (v1, v7, wi64 (v8 + 1), c0, ()))
     else none
    else none
   else
   some (.fin (.out (v1, v7, c0, ())))
  else none
 else none
def r07_Find_s0 (x : r07_Find_h0.T) : Option (SRes r07_Find_h0 r07_Find_o0 r07_Find_e0) := r07_Find_s0r x.1 x.2.1 x.2.2.1 x.2.2.2.1
def r07_Find_l0 (x : r07_Find_h0.T) : Option (LRes r07_Find_o0 r07_Find_e0) := iterL r07_Find_s0 9223372036854775808 x
abbrev r07_Find_h1 : U := (.cons cI (.cons cI (.cons cHeap .nil)))
abbrev r07_Find_o1 : U := .nil
abbrev r07_Find_e1 : U := (.cons cI (.cons cI (.cons .bool .nil)))
def r07_Find_s1r (v1 : Int) (v7 : Int) (c0 : Heap) : Option (SRes r07_Find_h1 r07_Find_o1 r07_Find_e1) :=
 bif decide (v7 < (c0.2.1.length : Int)) then
  bif decide (0 ≤ v7) then
   bif decide (v7 < (c0.2.1.length : Int)) then
    bif (c0.2.1.getD v7.toNat (0, 0, 0, ())).1 == 0 then
     some (.next (v1, wi64 (v7 + 1), c0, ()))
    else
    (r07_Find_l0 (v1, v7, 0, c0, ())).bind fun s3 => match s3 with
    | .out s3 =>
     some (.next (s3.1, wi64 (s3.2.1 + 1), s3.2.2.1, ()))
    | .ret s3 =>
     some (.fin (.ret (s3.1, s3.2.1, s3.2.2.1, ())))
   else none
  else none
 else
 some (.fin (.out ()))
def r07_Find_s1 (x : r07_Find_h1.T) : Option (SRes r07_Find_h1 r07_Find_o1 r07_Find_e1) := r07_Find_s1r x.1 x.2.1 x.2.2.1
def r07_Find_l1 (x : r07_Find_h1.T) : Option (LRes r07_Find_o1 r07_Find_e1) := iterL r07_Find_s1 9223372036854775808 x
def r07_Find_r (a0 : Heap) (a1 : Int) : Option (Int × Int × Bool × Unit) :=
 (r07_Find_l1 (a1, 0, a0, ())).bind fun s4 => match s4 with
 | .out s4 =>
  some (0, 0, false, ())
 | .ret s4 =>
  some (s4.1, s4.2.1, s4.2.2.1, ())
def r07_Find (x : Heap × Int × Unit) : Option (Int × Int × Bool × Unit) := r07_Find_r x.1 x.2.1
def r07_Find_sm : Sum := ⟨(.cons cHeap (.cons cI .nil)), (.cons (.d cI) (.cons (.d cI) (.cons (.d .bool) .nil))), r07_Find⟩
def r07_Find_L0 : LoopSum := { hc := ⟨[], [1, 2, 7, 8], [], [], [0], [], 288⟩, h := ⟨[(1, (.d cI)), (2, (.pvar 0 [])), (7, (.d cI)), (8, (.d cI))], [(0, (.d cHeap))], [], 288⟩, xid := 2, oc := ⟨[], [1, 2, 7], [], [], [0], [], 288⟩, o := ⟨[(1, (.d cI)), (2, (.pvar 0 [])), (7, (.d cI))], [(0, (.d cHeap))], [], 288⟩, rc := ⟨[], [4, 5, 6], [], [], [], [], 288⟩, r := ⟨[(4, (.d cI)), (5, (.d cI)), (6, (.d .bool))], [], [], 288⟩, F := r07_Find_l0 }
def r07_Find_L1 : LoopSum := { hc := ⟨[], [1, 2, 7], [], [], [0], [], 80⟩, h := ⟨[(1, (.d cI)), (2, (.pvar 0 [])), (7, (.d cI))], [(0, (.d cHeap))], [], 80⟩, xid := 0, oc := ⟨[], [], [], [], [], [], 80⟩, o := ⟨[], [], [], 80⟩, rc := ⟨[], [4, 5, 6], [], [], [], [], 80⟩, r := ⟨[(4, (.d cI)), (5, (.d cI)), (6, (.d .bool))], [], [], 80⟩, F := r07_Find_l1 }
def r07_Find_c : Ctx := ⟨[(82, r04_Words_sm), (83, r04_Blocks_sm)], [], [⟨8, 141, 0, 2, r07_Find_L0⟩, ⟨8, 141, 0, 0, r07_Find_L1⟩]⟩
theorem r07_Find_sem : SemOf Tryz.prog 141 r07_Find_sm := semC (c := r07_Find_c) Tryz.func141 (sc r04_Words_sem (sc r04_Blocks_sem an)) an (ec (aeC [true, false, true, false, false, true, false, false, true, true, false, false] r07_Find_s0 Tryz.func141) (ec (aeC [true, false, true, false, false] r07_Find_s1 Tryz.func141) an)) 8
def r06_InUse_r (a0 : Span) : Option (Bool × Unit) :=
 bif a0.1 == 1 then
  some (true, ())
 else
 some (a0.1 == 2, ())
def r06_InUse (x : Span × Unit) : Option (Bool × Unit) := r06_InUse_r x.1
def r06_InUse_sm : Sum := ⟨(.cons cSpan .nil), (.cons (.d .bool) .nil), r06_InUse⟩
def r06_InUse_c : Ctx := ⟨[], [], []⟩
theorem r06_InUse_sem : SemOf Tryz.prog 219 r06_InUse_sm := semC (c := r06_InUse_c) Tryz.func219 an an an 8
def r03_With_r (a0 : Int) (a1 : Int) : Option (Int × Unit) :=
 (r03_turned (a0, a1, true, ())).bind fun y1 =>
 some (y1.1, ())
def r03_With (x : Int × Int × Unit) : Option (Int × Unit) := r03_With_r x.1 x.2.1
def r03_With_sm : Sum := ⟨(.cons (.int .u32) (.cons cI .nil)), (.cons (.d (.int .u32)) .nil), r03_With⟩
def r03_With_c : Ctx := ⟨[(301, r03_turned_sm)], [], []⟩
theorem r03_With_sem : SemOf Tryz.prog 291 r03_With_sm := semC (c := r03_With_c) Tryz.func291 (sc r03_turned_sem an) an an 8
def r06_Give_r (a0 : Span) (a1 : Int) : Option (Span × Bool × Unit) :=
 (r06_InUse (a0, ())).bind fun y1 =>
 bif !y1.1 then
  some (a0, false, ())
 else
 bif decide (a1 < 0) then
  some (a0, false, ())
 else
 (r04_Blocks (a0.2.1, ())).bind fun y2 =>
 bif decide (a1 ≥ y2.1) then
  some (a0, false, ())
 else
 (r03_Has (a0.2.2.1, a1, ())).bind fun y3 =>
 bif y3.1 then
  some (a0, false, ())
 else
 (r03_With (a0.2.2.1, a1, ())).bind fun y4 =>
 some ((a0.1, a0.2.1, y4.1, a0.2.2.2), true, ())
def r06_Give (x : Span × Int × Unit) : Option (Span × Bool × Unit) := r06_Give_r x.1 x.2.1
def r06_Give_sm : Sum := ⟨(.cons cSpan (.cons cI .nil)), (.cons (.d cSpan) (.cons (.d .bool) .nil)), r06_Give⟩
def r06_Give_c : Ctx := ⟨[(83, r04_Blocks_sm), (84, r03_Has_sm), (219, r06_InUse_sm), (291, r03_With_sm)], [], []⟩
theorem r06_Give_sem : SemOf Tryz.prog 236 r06_Give_sm := semC (c := r06_Give_c) Tryz.func236 (sc r04_Blocks_sem (sc r03_Has_sem (sc r06_InUse_sem (sc r03_With_sem an)))) an an 8
abbrev r03_Count_h0 : U := (.cons (.int .u32) cVal)
abbrev r03_Count_o0 : U := (.cons cI .nil)
abbrev r03_Count_e0 : U := .nil
def r03_Count_s0r (v0 : Int) (v3 : Int) (v4 : Int) : Option (SRes r03_Count_h0 r03_Count_o0 r03_Count_e0) :=
 bif decide (v4 < 32) then
  (r03_Has (v0, v4, ())).bind fun y1 =>
  bif y1.1 then
   some (.next (v0, wi64 (v3 + 1), wi64 (v4 + 1), ()))
  else
  some (.next (v0, v3, wi64 (v4 + 1), ()))
 else
 some (.fin (.out (v3, ())))
def r03_Count_s0 (x : r03_Count_h0.T) : Option (SRes r03_Count_h0 r03_Count_o0 r03_Count_e0) := r03_Count_s0r x.1 x.2.1 x.2.2.1
def r03_Count_l0 (x : r03_Count_h0.T) : Option (LRes r03_Count_o0 r03_Count_e0) := iterL r03_Count_s0 9223372036854775808 x
def r03_Count_r (a0 : Int) : Option (Int × Unit) :=
 (r03_Count_l0 (a0, 0, 0, ())).bind fun s2 => match s2 with
 | .out s2 =>
  some (s2.1, ())
 | .ret s2 =>
  none
def r03_Count (x : Int × Unit) : Option (Int × Unit) := r03_Count_r x.1
def r03_Count_sm : Sum := ⟨(.cons (.int .u32) .nil), (.cons (.d cI) .nil), r03_Count⟩
def r03_Count_L0 : LoopSum := { hc := ⟨[], [0, 3, 4], [], [], [], [], 48⟩, h := ⟨[(0, (.d (.int .u32))), (3, (.d cI)), (4, (.d cI))], [], [], 48⟩, xid := 0, oc := ⟨[], [3], [], [], [], [], 48⟩, o := ⟨[(3, (.d cI))], [], [], 48⟩, rc := ⟨[], [], [], [], [48], [], 48⟩, r := ⟨[], [], [], 48⟩, F := r03_Count_l0 }
def r03_Count_c : Ctx := ⟨[(84, r03_Has_sm)], [], [⟨8, 159, 0, 0, r03_Count_L0⟩]⟩
theorem r03_Count_sem : SemOf Tryz.prog 159 r03_Count_sm := semC (c := r03_Count_c) Tryz.func159 (sc r03_Has_sem an) an (ec (aeC [true, true, false, true, false, false] r03_Count_s0 Tryz.func159) an) 8
def r06_Free_r (a0 : Span) : Option (Int × Unit) :=
 (r03_Count (a0.2.2.1, ())).bind fun y1 =>
 some (y1.1, ())
def r06_Free (x : Span × Unit) : Option (Int × Unit) := r06_Free_r x.1
def r06_Free_sm : Sum := ⟨(.cons cSpan .nil), (.cons (.d cI) .nil), r06_Free⟩
def r06_Free_c : Ctx := ⟨[(159, r03_Count_sm)], [], []⟩
theorem r06_Free_sem : SemOf Tryz.prog 91 r06_Free_sm := semC (c := r06_Free_c) Tryz.func91 (sc r03_Count_sem an) an an 8
end
end Go.Proofs.YtkjpakaidjpjgaaGreatDoor.Den
