/- What functions come to. Printed by a program of this session. -/
import Derived.Test.YtkjpakaidjpjgaaGreatDoorDenF3
namespace Go.Proofs.YtkjpakaidjpjgaaGreatDoor.Den
open Go
set_option maxRecDepth 100000
set_option linter.unusedVariables false
noncomputable section
abbrev r12_Dirty_h0 : U := (.cons cI (.cons cI (.cons cHeap .nil)))
abbrev r12_Dirty_o0 : U := (.cons cI .nil)
abbrev r12_Dirty_e0 : U := .nil
def r12_Dirty_s0r (v3 : Int) (v4 : Int) (c0 : Heap) : Option (SRes r12_Dirty_h0 r12_Dirty_o0 r12_Dirty_e0) :=
 bif decide (v4 < (c0.2.1.length : Int)) then
  bif decide (0 ≤ v4) then
   bif decide (v4 < (c0.2.1.length : Int)) then
    bif (c0.2.1.getD v4.toNat (0, 0, 0, ())).1 == 2 then
     some (.next (wi64 (v3 + 1), wi64 (v4 + 1), c0, ()))
    else
    some (.next (v3, wi64 (v4 + 1), c0, ()))
   else none
  else none
 else
 some (.fin (.out (v3, ())))
def r12_Dirty_s0 (x : r12_Dirty_h0.T) : Option (SRes r12_Dirty_h0 r12_Dirty_o0 r12_Dirty_e0) := r12_Dirty_s0r x.1 x.2.1 x.2.2.1
def r12_Dirty_l0 (x : r12_Dirty_h0.T) : Option (LRes r12_Dirty_o0 r12_Dirty_e0) := iterL r12_Dirty_s0 9223372036854775808 x
def r12_Dirty_r (a0 : Heap) : Option (Int × Unit) :=
 (r12_Dirty_l0 (0, 0, a0, ())).bind fun s1 => match s1 with
 | .out s1 =>
  some (s1.1, ())
 | .ret s1 =>
  none
def r12_Dirty (x : Heap × Unit) : Option (Int × Unit) := r12_Dirty_r x.1
def r12_Dirty_sm : Sum := ⟨(.cons cHeap .nil), (.cons (.d cI) .nil), r12_Dirty⟩
def r12_Dirty_L0 : LoopSum := { hc := ⟨[], [1, 3, 4], [], [], [0], [], 64⟩, h := ⟨[(1, (.pvar 0 [])), (3, (.d cI)), (4, (.d cI))], [(0, (.d cHeap))], [], 64⟩, xid := 0, oc := ⟨[], [3], [], [], [], [], 64⟩, o := ⟨[(3, (.d cI))], [], [], 64⟩, rc := ⟨[], [], [], [], [64], [], 64⟩, r := ⟨[], [], [], 64⟩, F := r12_Dirty_l0 }
def r12_Dirty_c : Ctx := ⟨[], [], [⟨8, 68, 0, 0, r12_Dirty_L0⟩]⟩
theorem r12_Dirty_sem : SemOf Tryz.prog 68 r12_Dirty_sm := semC (c := r12_Dirty_c) Tryz.func68 an an (ec (aeC [true, true, false, true, false, false] r12_Dirty_s0 Tryz.func68) an) 8
def r08_Black_r (a0 : Heap) (a1 : Int) : Option (Bool × Unit) :=
 (r08_Get (a0, a1, ())).bind fun y1 =>
 bif y1.2.1 then
  some (y1.1.2.1 == a0.2.2.1, ())
 else
 some (false, ())
def r08_Black (x : Heap × Int × Unit) : Option (Bool × Unit) := r08_Black_r x.1 x.2.1
def r08_Black_sm : Sum := ⟨(.cons cHeap (.cons cI .nil)), (.cons (.d .bool) .nil), r08_Black⟩
def r08_Black_c : Ctx := ⟨[(65, r08_Get_sm)], [], []⟩
theorem r08_Black_sem : SemOf Tryz.prog 69 r08_Black_sm := semC (c := r08_Black_c) Tryz.func69 (sc r08_Get_sem an) an an 8
abbrev r03_Has_h0 : U := (.cons (.int .u32) cVal)
abbrev r03_Has_o0 : U := (.cons (.int .u32) .nil)
abbrev r03_Has_e0 : U := .nil
def r03_Has_s0r (v0 : Int) (v1 : Int) (v5 : Int) : Option (SRes r03_Has_h0 r03_Has_o0 r03_Has_e0) :=
 bif decide (v5 < v1) then
  some (.next (wu32 (v0.tdiv 2), v1, wi64 (v5 + 1), ()))
 else
 some (.fin (.out (v0, ())))
def r03_Has_s0 (x : r03_Has_h0.T) : Option (SRes r03_Has_h0 r03_Has_o0 r03_Has_e0) := r03_Has_s0r x.1 x.2.1 x.2.2.1
def r03_Has_l0 (x : r03_Has_h0.T) : Option (LRes r03_Has_o0 r03_Has_e0) := iterL r03_Has_s0 9223372036854775808 x
def r03_Has_r (a0 : Int) (a1 : Int) : Option (Bool × Unit) :=
 bif decide (a1 < 0) then
  some (false, ())
 else
 bif decide (a1 > 31) then
  some (false, ())
 else
 (r03_Has_l0 (a0, a1, 0, ())).bind fun s1 => match s1 with
 | .out s1 =>
  some ((s1.1.tmod 2) == 1, ())
 | .ret s1 =>
  none
def r03_Has (x : Int × Int × Unit) : Option (Bool × Unit) := r03_Has_r x.1 x.2.1
def r03_Has_sm : Sum := ⟨(.cons (.int .u32) (.cons cI .nil)), (.cons (.d .bool) .nil), r03_Has⟩
def r03_Has_L0 : LoopSum := { hc := ⟨[], [0, 1, 5], [], [], [], [], 128⟩, h := ⟨[(0, (.d (.int .u32))), (1, (.d cI)), (5, (.d cI))], [], [], 128⟩, xid := 0, oc := ⟨[], [0], [], [], [], [], 128⟩, o := ⟨[(0, (.d (.int .u32)))], [], [], 128⟩, rc := ⟨[], [], [], [], [128], [], 128⟩, r := ⟨[], [], [], 128⟩, F := r03_Has_l0 }
def r03_Has_c : Ctx := ⟨[], [], [⟨8, 84, 0, 0, r03_Has_L0⟩]⟩
theorem r03_Has_sem : SemOf Tryz.prog 84 r03_Has_sm := semC (c := r03_Has_c) Tryz.func84 an an (ec (aeC [true, true, false, true, false, false] r03_Has_s0 Tryz.func84) an) 8
abbrev r03_Count_h0 : U := (.cons (.int .u32) cVal)
abbrev r03_Count_o0 : U := (.cons cI .nil)
abbrev r03_Count_e0 : U := .nil
def r03_Count_s0r (v0 : Int) (v3 : Int) (v4 : Int) : Option (SRes r03_Count_h0 r03_Count_o0 r03_Count_e0) :=
 bif decide (v4 < 32) then
  (r03_Has (v0, v4, ())).bind fun y1 =>
  bif y1.1 then
   some (.next (v0, wi64 (v3 + 1), wi64 (v4 + 1), ()))
  else
  some (.next (v0, v3, wi64 (v4 + 1), ()))
 else
 some (.fin (.out (v3, ())))
def r03_Count_s0 (x : r03_Count_h0.T) : Option (SRes r03_Count_h0 r03_Count_o0 r03_Count_e0) := r03_Count_s0r x.1 x.2.1 x.2.2.1
def r03_Count_l0 (x : r03_Count_h0.T) : Option (LRes r03_Count_o0 r03_Count_e0) := iterL r03_Count_s0 9223372036854775808 x
def r03_Count_r (a0 : Int) : Option (Int × Unit) :=
 (r03_Count_l0 (a0, 0, 0, ())).bind fun s2 => match s2 with
 | .out s2 =>
  some (s2.1, ())
 | .ret s2 =>
  none
def r03_Count (x : Int × Unit) : Option (Int × Unit) := r03_Count_r x.1
def r03_Count_sm : Sum := ⟨(.cons (.int .u32) .nil), (.cons (.d cI) .nil), r03_Count⟩
def r03_Count_L0 : LoopSum := { hc := ⟨[], [0, 3, 4], [], [], [], [], 48⟩, h := ⟨[(0, (.d (.int .u32))), (3, (.d cI)), (4, (.d cI))], [], [], 48⟩, xid := 0, oc := ⟨[], [3], [], [], [], [], 48⟩, o := ⟨[(3, (.d cI))], [], [], 48⟩, rc := ⟨[], [], [], [], [48], [], 48⟩, r := ⟨[], [], [], 48⟩, F := r03_Count_l0 }
def r03_Count_c : Ctx := ⟨[(84, r03_Has_sm)], [], [⟨8, 159, 0, 0, r03_Count_L0⟩]⟩
theorem r03_Count_sem : SemOf Tryz.prog 159 r03_Count_sm := semC (c := r03_Count_c) Tryz.func159 (sc r03_Has_sem an) an (ec (aeC [true, true, false, true, false, false] r03_Count_s0 Tryz.func159) an) 8
def r06_Free_r (a0 : Span) : Option (Int × Unit) :=
 (r03_Count (a0.2.2.1, ())).bind fun y1 =>
 some (y1.1, ())
def r06_Free (x : Span × Unit) : Option (Int × Unit) := r06_Free_r x.1
def r06_Free_sm : Sum := ⟨(.cons cSpan .nil), (.cons (.d cI) .nil), r06_Free⟩
def r06_Free_c : Ctx := ⟨[(159, r03_Count_sm)], [], []⟩
theorem r06_Free_sem : SemOf Tryz.prog 91 r06_Free_sm := semC (c := r06_Free_c) Tryz.func91 (sc r03_Count_sem an) an an 8
abbrev r07_with_h0 : U := (.cons cI (.cons cI (.cons cHeap (.cons cSpan (.cons (.cons .bool .nil) (.cons (.cons .bool .nil) (.cons (.sl (.int .u64)) (.cons (.sl cSpan) .nil))))))))
abbrev r07_with_o0 : U := (.cons (.cons .bool .nil) (.cons (.cons .bool .nil) (.cons (.sl (.int .u64)) (.cons (.sl cSpan) .nil))))
abbrev r07_with_e0 : U := .nil
def r07_with_s0r (v1 : Int) (v8 : Int) (c0 : Heap) (c16 : Span) (c32 : Bool × Unit) (c96 : Bool × Unit) (r192 : List Int) (r256 : List Span) : Option (SRes r07_with_h0 r07_with_o0 r07_with_e0) :=
 bif decide (v8 < (c0.2.1.length : Int)) then
  bif decide (0 ≤ v8) then
   bif decide (v8 < (c0.2.1.length : Int)) then
    bif v8 == v1 then
     bif decide ((r256.length + 1) * 24 ≤ 140737488355328) then
      some (.next (v1, wi64 (v8 + 1), c0, c16, c32, c96, r192, r256 ++ [c16], ()))
     else none
    else
    bif decide ((r256.length + 1) * 24 ≤ 140737488355328) then
     some (.next (v1, wi64 (v8 + 1), c0, c16, c32, c96, r192, r256 ++ [c0.2.1.getD v8.toNat (0, 0, 0, ())], ()))
    else none
   else none
  else none
 else
 some (.fin (.out (c32, c96, r192, r256, ())))
def r07_with_s0 (x : r07_with_h0.T) : Option (SRes r07_with_h0 r07_with_o0 r07_with_e0) := r07_with_s0r x.1 x.2.1 x.2.2.1 x.2.2.2.1 x.2.2.2.2.1 x.2.2.2.2.2.1 x.2.2.2.2.2.2.1 x.2.2.2.2.2.2.2.1
def r07_with_l0 (x : r07_with_h0.T) : Option (LRes r07_with_o0 r07_with_e0) := iterL r07_with_s0 9223372036854775808 x
def r07_with_r (a0 : Heap) (a1 : Int) (a2 : Span) : Option (Heap × Unit) :=
 bif decide (a0.1.length * 8 ≤ 140737488355328) then
  (r07_with_l0 (a1, 0, a0, a2, (false, ()), (a0.2.2.1, ()), a0.1, [], ())).bind fun s1 => match s1 with
  | .out s1 =>
   some ((s1.2.2.1, s1.2.2.2.1, s1.2.1), ())
  | .ret s1 =>
   none
 else none
def r07_with (x : Heap × Int × Span × Unit) : Option (Heap × Unit) := r07_with_r x.1 x.2.1 x.2.2.1
def r07_with_sm : Sum := ⟨(.cons cHeap (.cons cI (.cons cSpan .nil))), (.cons (.cons (.own (.int .u64)) (.cons (.own cSpan) (.d (.cons .bool .nil)))) .nil), r07_with⟩
def r07_with_L0 : LoopSum := { hc := ⟨[], [1, 3, 5, 6, 7, 8], [(.key 96 [.fld 1], cSpan)], [], [0, 16, 32, 96], [192], 256⟩, h := ⟨[(1, (.d cI)), (3, (.pvar 0 [])), (5, (.pvar 16 [])), (6, (.pvar 32 [])), (7, (.pvar 96 [])), (8, (.d cI))], [(0, (.d cHeap)), (16, (.d cSpan)), (32, (.cons .nilsl (.cons .nilsl (.d (.cons .bool .nil))))), (96, (.cons (.row 192) (.cons (.row 256) (.d (.cons .bool .nil)))))], [(192, (.int .u64), true), (256, cSpan, true)], 257⟩, xid := 0, oc := ⟨[], [6, 7], [(.ptr 7 [.fld 1], cSpan)], [], [32, 96], [192], 256⟩, o := ⟨[(6, (.pvar 32 [])), (7, (.pvar 96 []))], [(32, (.cons .nilsl (.cons .nilsl (.d (.cons .bool .nil))))), (96, (.cons (.row 192) (.cons (.row 256) (.d (.cons .bool .nil)))))], [(192, (.int .u64), true), (256, cSpan, true)], 257⟩, rc := ⟨[], [], [], [], [256], [], 256⟩, r := ⟨[], [], [], 256⟩, F := r07_with_l0 }
def r07_with_c : Ctx := ⟨[], [], [⟨8, 191, 0, 0, r07_with_L0⟩]⟩
theorem r07_with_sem : SemOf Tryz.prog 191 r07_with_sm := semC (c := r07_with_c) Tryz.func191 an an (ec (aeC [true, true, true, false, true, false, false] r07_with_s0 Tryz.func191) an) 8
def r06_InUse_r (a0 : Span) : Option (Bool × Unit) :=
 bif a0.1 == 1 then
  some (true, ())
 else
 some (a0.1 == 2, ())
def r06_InUse (x : Span × Unit) : Option (Bool × Unit) := r06_InUse_r x.1
def r06_InUse_sm : Sum := ⟨(.cons cSpan .nil), (.cons (.d .bool) .nil), r06_InUse⟩
def r06_InUse_c : Ctx := ⟨[], [], []⟩
theorem r06_InUse_sem : SemOf Tryz.prog 219 r06_InUse_sm := semC (c := r06_InUse_c) Tryz.func219 an an an 8
abbrev r03_Of_h0 : U := (.cons (.int .u32) (.cons cI (.cons (.arr 32 .bool) .nil)))
abbrev r03_Of_o0 : U := (.cons (.int .u32) .nil)
abbrev r03_Of_e0 : U := .nil
def r03_Of_s0r (v3 : Int) (v4 : Int) (c0 : List Bool) : Option (SRes r03_Of_h0 r03_Of_o0 r03_Of_e0) :=
 bif decide (v4 ≥ 0) then
  bif decide (0 ≤ v4) then
   bif decide (v4 < 32) then
    bif c0.getD v4.toNat false then
     some (.next (wu32 ((wu32 (2 * v3)) + 1), wi64 (v4 - 1), c0, ()))
    else
    some (.next (wu32 (2 * v3), wi64 (v4 - 1), c0, ()))
   else none
  else none
 else
 some (.fin (.out (v3, ())))
def r03_Of_s0 (x : r03_Of_h0.T) : Option (SRes r03_Of_h0 r03_Of_o0 r03_Of_e0) := r03_Of_s0r x.1 x.2.1 x.2.2.1
def r03_Of_l0 (x : r03_Of_h0.T) : Option (LRes r03_Of_o0 r03_Of_e0) := iterL r03_Of_s0 9223372036854775808 x
def r03_Of_r (a0 : List Bool) : Option (Int × Unit) :=
 (r03_Of_l0 (0, 31, a0, ())).bind fun s1 => match s1 with
 | .out s1 =>
  some (s1.1, ())
 | .ret s1 =>
  none
def r03_Of (x : (List Bool) × Unit) : Option (Int × Unit) := r03_Of_r x.1
def r03_Of_sm : Sum := ⟨(.cons (.arr 32 .bool) .nil), (.cons (.d (.int .u32)) .nil), r03_Of⟩
def r03_Of_L0 : LoopSum := { hc := ⟨[], [1, 3, 4], [], [], [0], [], 64⟩, h := ⟨[(1, (.pvar 0 [])), (3, (.d (.int .u32))), (4, (.d cI))], [(0, (.d (.arr 32 .bool)))], [], 64⟩, xid := 0, oc := ⟨[], [3], [], [], [], [], 64⟩, o := ⟨[(3, (.d (.int .u32)))], [], [], 64⟩, rc := ⟨[], [], [], [], [64], [], 64⟩, r := ⟨[], [], [], 64⟩, F := r03_Of_l0 }
def r03_Of_c : Ctx := ⟨[], [], [⟨8, 254, 0, 0, r03_Of_L0⟩]⟩
theorem r03_Of_sem : SemOf Tryz.prog 254 r03_Of_sm := semC (c := r03_Of_c) Tryz.func254 an an (ec (aeC [true, true, false, true, false, false] r03_Of_s0 Tryz.func254) an) 8
abbrev r03_turned_h0 : U := (.cons (.int .u32) (.cons cI (.cons .bool (.cons cI (.cons (.arr 32 .bool) .nil)))))
abbrev r03_turned_o0 : U := (.cons cI (.cons .bool (.cons (.arr 32 .bool) .nil)))
abbrev r03_turned_e0 : U := .nil
def r03_turned_s0r (v0 : Int) (v1 : Int) (v2 : Bool) (v8 : Int) (c16 : List Bool) : Option (SRes r03_turned_h0 r03_turned_o0 r03_turned_e0) :=
 bif decide (v8 < 32) then
  (r03_Has (v0, v8, ())).bind fun y1 =>
  bif decide (0 ≤ v8) then
   bif decide (v8 < 32) then
    some (.next (v0, v1, v2, wi64 (v8 + 1), c16.set v8.toNat y1.1, ()))
   else none
  else none
 else
 some (.fin (.out (v1, v2, c16, ())))
def r03_turned_s0 (x : r03_turned_h0.T) : Option (SRes r03_turned_h0 r03_turned_o0 r03_turned_e0) := r03_turned_s0r x.1 x.2.1 x.2.2.1 x.2.2.2.1 x.2.2.2.2.1
def r03_turned_l0 (x : r03_turned_h0.T) : Option (LRes r03_turned_o0 r03_turned_e0) := iterL r03_turned_s0 9223372036854775808 x
def r03_turned_r (a0 : Int) (a1 : Int) (a2 : Bool) : Option (Int × Unit) :=
 (r03_turned_l0 (a0, a1, a2, 0, List.replicate 32 false, ())).bind fun s2 => match s2 with
 | .out s2 =>
  bif decide (s2.1 ≥ 0) then
   bif decide (s2.1 < 32) then
    bif decide (0 ≤ s2.1) then
     bif decide (s2.1 < 32) then
      (r03_Of (s2.2.2.1.set s2.1.toNat s2.2.1, ())).bind fun y3 =>
      some (y3.1, ())
     else none
    else none
   else
   (r03_Of (s2.2.2.1, ())).bind fun y4 =>
   some (y4.1, ())
  else
  (r03_Of (s2.2.2.1, ())).bind fun y5 =>
  some (y5.1, ())
 | .ret s2 =>
  none
def r03_turned (x : Int × Int × Bool × Unit) : Option (Int × Unit) := r03_turned_r x.1 x.2.1 x.2.2.1
def r03_turned_sm : Sum := ⟨(.cons (.int .u32) (.cons cI (.cons .bool .nil))), (.cons (.d (.int .u32)) .nil), r03_turned⟩
def r03_turned_L0 : LoopSum := { hc := ⟨[], [0, 1, 2, 7, 8], [], [], [16], [], 48⟩, h := ⟨[(0, (.d (.int .u32))), (1, (.d cI)), (2, (.d .bool)), (7, (.pvar 16 [])), (8, (.d cI))], [(16, (.d (.arr 32 .bool)))], [], 48⟩, xid := 0, oc := ⟨[], [1, 2, 7], [], [], [16], [], 48⟩, o := ⟨[(1, (.d cI)), (2, (.d .bool)), (7, (.pvar 16 []))], [(16, (.d (.arr 32 .bool)))], [], 48⟩, rc := ⟨[], [], [], [], [48], [], 48⟩, r := ⟨[], [], [], 48⟩, F := r03_turned_l0 }
def r03_turned_c : Ctx := ⟨[(84, r03_Has_sm), (254, r03_Of_sm)], [], [⟨8, 301, 0, 0, r03_turned_L0⟩]⟩
theorem r03_turned_sem : SemOf Tryz.prog 301 r03_turned_sm := semC (c := r03_turned_c) Tryz.func301 (sc r03_Has_sem (sc r03_Of_sem an)) an (ec (aeC [true, true, false, true, false, false] r03_turned_s0 Tryz.func301) an) 8
def r03_With_r (a0 : Int) (a1 : Int) : Option (Int × Unit) :=
 (r03_turned (a0, a1, true, ())).bind fun y1 =>
 some (y1.1, ())
def r03_With (x : Int × Int × Unit) : Option (Int × Unit) := r03_With_r x.1 x.2.1
def r03_With_sm : Sum := ⟨(.cons (.int .u32) (.cons cI .nil)), (.cons (.d (.int .u32)) .nil), r03_With⟩
def r03_With_c : Ctx := ⟨[(301, r03_turned_sm)], [], []⟩
theorem r03_With_sem : SemOf Tryz.prog 291 r03_With_sm := semC (c := r03_With_c) Tryz.func291 (sc r03_turned_sem an) an an 8
def r06_Give_r (a0 : Span) (a1 : Int) : Option (Span × Bool × Unit) :=
 (r06_InUse (a0, ())).bind fun y1 =>
 bif !y1.1 then
  some (a0, false, ())
 else
 bif decide (a1 < 0) then
  some (a0, false, ())
 else
 (r04_Blocks (a0.2.1, ())).bind fun y2 =>
 bif decide (a1 ≥ y2.1) then
  some (a0, false, ())
 else
 (r03_Has (a0.2.2.1, a1, ())).bind fun y3 =>
 bif y3.1 then
  some (a0, false, ())
 else
 (r03_With (a0.2.2.1, a1, ())).bind fun y4 =>
 some ((a0.1, a0.2.1, y4.1, a0.2.2.2), true, ())
def r06_Give (x : Span × Int × Unit) : Option (Span × Bool × Unit) := r06_Give_r x.1 x.2.1
def r06_Give_sm : Sum := ⟨(.cons cSpan (.cons cI .nil)), (.cons (.d cSpan) (.cons (.d .bool) .nil)), r06_Give⟩
def r06_Give_c : Ctx := ⟨[(83, r04_Blocks_sm), (84, r03_Has_sm), (219, r06_InUse_sm), (291, r03_With_sm)], [], []⟩
theorem r06_Give_sem : SemOf Tryz.prog 236 r06_Give_sm := semC (c := r06_Give_c) Tryz.func236 (sc r04_Blocks_sem (sc r03_Has_sem (sc r06_InUse_sem (sc r03_With_sem an)))) an an 8
abbrev r11_Kept_h0 : U := (.cons (.sl (.arr 4 cI)) (.cons cI cVal))
abbrev r11_Kept_o0 : U := (.cons (.sl (.arr 4 cI)) cVal)
abbrev r11_Kept_e0 : U := (.cons .bool .nil)
def r11_Kept_s0r (v0 : List (List Int)) (v1 : Int) (v5 : Int) (v6 : Int) : Option (SRes r11_Kept_h0 r11_Kept_o0 r11_Kept_e0) :=
 bif decide (v6 < 4) then
  bif decide (0 ≤ v5) then
   bif decide (v5 < (v0.length : Int)) then
    bif decide (0 ≤ v6) then
     bif decide (v6 < 4) then
      bif ((v0.getD v5.toNat (List.replicate 4 0)).getD v6.toNat 0) == v1 then
       some (.fin (.ret (true, ())))
      else
      some (.next (v0, v1, v5, wi64 (v6 + 1), ()))
     else none
    else none
   else none
  else none
 else
 some (.fin (.out (v0, v1, v5, ())))
def r11_Kept_s0 (x : r11_Kept_h0.T) : Option (SRes r11_Kept_h0 r11_Kept_o0 r11_Kept_e0) := r11_Kept_s0r x.1 x.2.1 x.2.2.1 x.2.2.2.1
def r11_Kept_l0 (x : r11_Kept_h0.T) : Option (LRes r11_Kept_o0 r11_Kept_e0) := iterL r11_Kept_s0 9223372036854775808 x
abbrev r11_Kept_h1 : U := (.cons (.sl (.arr 4 cI)) cVal)
abbrev r11_Kept_o1 : U := .nil
abbrev r11_Kept_e1 : U := (.cons .bool .nil)
def r11_Kept_s1r (v0 : List (List Int)) (v1 : Int) (v5 : Int) : Option (SRes r11_Kept_h1 r11_Kept_o1 r11_Kept_e1) :=
 bif decide (v5 < (v0.length : Int)) then
  bif decide (v1 ≥ 0) then
   (r11_Kept_l0 (v0, v1, v5, 0, ())).bind fun s1 => match s1 with
   | .out s1 =>
    some (.next (s1.1, s1.2.1, wi64 (s1.2.2.1 + 1), ()))
   | .ret s1 =>
    some (.fin (.ret (s1.1, ())))
  else
  some (.fin (.out ()))
 else
 some (.fin (.out ()))
def r11_Kept_s1 (x : r11_Kept_h1.T) : Option (SRes r11_Kept_h1 r11_Kept_o1 r11_Kept_e1) := r11_Kept_s1r x.1 x.2.1 x.2.2.1
def r11_Kept_l1 (x : r11_Kept_h1.T) : Option (LRes r11_Kept_o1 r11_Kept_e1) := iterL r11_Kept_s1 9223372036854775808 x
def r11_Kept_r (a0 : List (List Int)) (a1 : Int) : Option (Bool × Unit) :=
 (r11_Kept_l1 (a0, a1, 0, ())).bind fun s2 => match s2 with
 | .out s2 =>
  some (false, ())
 | .ret s2 =>
  some (s2.1, ())
def r11_Kept (x : (List (List Int)) × Int × Unit) : Option (Bool × Unit) := r11_Kept_r x.1 x.2.1
def r11_Kept_sm : Sum := ⟨(.cons (.sl (.arr 4 cI)) (.cons cI .nil)), (.cons (.d .bool) .nil), r11_Kept⟩
def r11_Kept_L0 : LoopSum := { hc := ⟨[], [0, 1, 5, 6], [], [], [], [], 176⟩, h := ⟨[(0, (.d (.sl (.arr 4 cI)))), (1, (.d cI)), (5, (.d cI)), (6, (.d cI))], [], [], 176⟩, xid := 2, oc := ⟨[], [0, 1, 5], [], [], [], [], 176⟩, o := ⟨[(0, (.d (.sl (.arr 4 cI)))), (1, (.d cI)), (5, (.d cI))], [], [], 176⟩, rc := ⟨[], [4], [], [], [], [], 176⟩, r := ⟨[(4, (.d .bool))], [], [], 176⟩, F := r11_Kept_l0 }
def r11_Kept_L1 : LoopSum := { hc := ⟨[], [0, 1, 5], [], [], [], [], 32⟩, h := ⟨[(0, (.d (.sl (.arr 4 cI)))), (1, (.d cI)), (5, (.d cI))], [], [], 32⟩, xid := 0, oc := ⟨[], [], [], [], [], [], 32⟩, o := ⟨[], [], [], 32⟩, rc := ⟨[], [4], [], [], [], [], 32⟩, r := ⟨[(4, (.d .bool))], [], [], 32⟩, F := r11_Kept_l1 }
def r11_Kept_c : Ctx := ⟨[], [], [⟨8, 190, 0, 2, r11_Kept_L0⟩, ⟨8, 190, 0, 0, r11_Kept_L1⟩]⟩
theorem r11_Kept_sem : SemOf Tryz.prog 190 r11_Kept_sm := semC (c := r11_Kept_c) Tryz.func190 an an (ec (aeC [true, false, true, false, false, true, false, false, true, false, false] r11_Kept_s0 Tryz.func190) (ec (aeC [true, false, true, false, false] r11_Kept_s1 Tryz.func190) an)) 8
def r12_copied_r (a0 : Heap) : Option (Heap × Unit) :=
 bif decide (a0.1.length * 8 ≤ 140737488355328) then
  bif decide (a0.2.1.length * 24 ≤ 140737488355328) then
   some ((a0.1, a0.2.1, a0.2.2.1, ()), ())
  else none
 else none
def r12_copied (x : Heap × Unit) : Option (Heap × Unit) := r12_copied_r x.1
def r12_copied_sm : Sum := ⟨(.cons cHeap .nil), (.cons (.cons (.own (.int .u64)) (.cons (.own cSpan) (.cons (.d .bool) .nil))) .nil), r12_copied⟩
def r12_copied_c : Ctx := ⟨[], [], []⟩
theorem r12_copied_sem : SemOf Tryz.prog 196 r12_copied_sm := semC (c := r12_copied_c) Tryz.func196 an an an 8
abbrev r12_One_h0 : U := (.cons cI (.cons cI (.cons cHeap (.cons (.cons .bool .nil) (.cons (.cons .bool .nil) (.cons (.cons .bool .nil) (.cons cSpan (.cons (.cons .bool .nil) (.cons (.sl (.int .u64)) (.cons (.sl cSpan) (.cons (.sl (.int .u64)) (.cons (.sl cSpan) .nil))))))))))))
abbrev r12_One_o0 : U := (.cons cHeap (.cons (.cons .bool .nil) (.cons (.cons .bool .nil) (.cons (.cons .bool .nil) (.cons (.cons .bool .nil) (.cons (.sl (.int .u64)) (.cons (.sl cSpan) (.cons (.sl (.int .u64)) (.cons (.sl cSpan) .nil)))))))))
abbrev r12_One_e0 : U := .nil
def r12_One_s0r (v1 : Int) (v12 : Int) (c0 : Heap) (c16 : Bool × Unit) (c320 : Bool × Unit) (c914 : Bool × Unit) (c1298 : Span) (c1442 : Bool × Unit) (r416 : List Int) (r417 : List Span) (r1426 : List Int) (r1427 : List Span) : Option (SRes r12_One_h0 r12_One_o0 r12_One_e0) :=
 (r04_Words (c1298.2.1, ())).bind fun y7 =>
 bif decide (v12 < y7.1) then
  bif decide (0 ≤ (wi64 (v1 + v12))) then
   bif decide ((wi64 (v1 + v12)) < (r1426.length : Int)) then
    some (.next (v1, wi64 (v12 + 1), c0, c16, c320, c914, c1298, c1442, r416, r417, r1426.set (wi64 (v1 + v12)).toNat 0, r1427, ()))
   else none
  else none
 else
 some (.fin (.out (c0, c16, c320, c914, c1442, r416, r417, r1426, r1427, ())))
def r12_One_s0 (x : r12_One_h0.T) : Option (SRes r12_One_h0 r12_One_o0 r12_One_e0) := r12_One_s0r x.1 x.2.1 x.2.2.1 x.2.2.2.1 x.2.2.2.2.1 x.2.2.2.2.2.1 x.2.2.2.2.2.2.1 x.2.2.2.2.2.2.2.1 x.2.2.2.2.2.2.2.2.1 x.2.2.2.2.2.2.2.2.2.1 x.2.2.2.2.2.2.2.2.2.2.1 x.2.2.2.2.2.2.2.2.2.2.2.1
def r12_One_l0 (x : r12_One_h0.T) : Option (LRes r12_One_o0 r12_One_e0) := iterL r12_One_s0 9223372036854775808 x
abbrev r12_One_h1 : U := (.cons (.sl (.arr 4 cI)) (.cons cI (.cons cI (.cons cI (.cons cHeap (.cons (.cons .bool .nil) (.cons (.cons .bool .nil) (.cons (.sl (.int .u64)) (.cons (.sl cSpan) .nil)))))))))
abbrev r12_One_o1 : U := (.cons (.sl (.arr 4 cI)) (.cons cI (.cons cI (.cons (.cons .bool .nil) (.cons (.cons .bool .nil) (.cons (.sl (.int .u64)) (.cons (.sl cSpan) .nil)))))))
abbrev r12_One_e1 : U := .nil
def r12_One_s1r (v1 : List (List Int)) (v8 : Int) (v10 : Int) (v11 : Int) (c0 : Heap) (c16 : Bool × Unit) (c320 : Bool × Unit) (r416 : List Int) (r417 : List Span) : Option (SRes r12_One_h1 r12_One_o1 r12_One_e1) :=
 bif decide (v11 < (wi64 ((wi64 (32 * v8)) + 32))) then
  (r08_Get ((r416, r417, c320), v11, ())).bind fun y2 =>
  bif !y2.2.1 then
   some (.next (v1, v8, v10, wi64 (v11 + 1), c0, c16, c320, r416, r417, ()))
  else
  (r08_Black ((r416, r417, c320), v11, ())).bind fun y3 =>
  bif y3.1 then
   some (.next (v1, v8, v10, wi64 (v11 + 1), c0, c16, c320, r416, r417, ()))
  else
  (r07_Find ((r416, r417, c320), v11, ())).bind fun y4 =>
  bif !y4.2.2.1 then
   some (.next (v1, v8, v10, wi64 (v11 + 1), c0, c16, c320, r416, r417, ()))
  else
  bif decide (0 ≤ y4.1) then
   bif decide (y4.1 < (r417.length : Int)) then
    (r06_Give (r417.getD y4.1.toNat (0, 0, 0, ()), y4.2.1, ())).bind fun y5 =>
    bif !y5.2.1 then
     some (.next (v1, v8, v10, wi64 (v11 + 1), c0, c16, c320, r416, r417, ()))
    else
    (r07_with ((r416, r417, c320), y4.1, y5.1, ())).bind fun y6 =>
    (r12_One_l0 (v11, 0, c0, c16, c320, (false, ()), y5.1, y6.1.2.2, r416, r417, y6.1.1, y6.1.2.1, ())).bind fun s8 => match s8 with
    | .out s8 =>
     bif decide (0 ≤ v8) then
      bif decide (v8 < (s8.1.2.1.length : Int)) then
       (r04_Words ((s8.1.2.1.getD v8.toNat (0, 0, 0, ())).2.1, ())).bind fun y9 =>
       some (.next (v1, v8, wi64 (v10 + y9.1), wi64 (v11 + 1), s8.1, s8.2.1, s8.2.2.2.2.1, s8.2.2.2.2.2.2.2.1, s8.2.2.2.2.2.2.2.2.1, ()))
      else none
     else none
    | .ret s8 =>
     none
   else none
  else none
 else
 some (.fin (.out (v1, v8, v10, c16, c320, r416, r417, ())))
def r12_One_s1 (x : r12_One_h1.T) : Option (SRes r12_One_h1 r12_One_o1 r12_One_e1) := r12_One_s1r x.1 x.2.1 x.2.2.1 x.2.2.2.1 x.2.2.2.2.1 x.2.2.2.2.2.1 x.2.2.2.2.2.2.1 x.2.2.2.2.2.2.2.1 x.2.2.2.2.2.2.2.2.1
def r12_One_l1 (x : r12_One_h1.T) : Option (LRes r12_One_o1 r12_One_e1) := iterL r12_One_s1 9223372036854775808 x
abbrev r12_One_h2 : U := (.cons (.sl (.arr 4 cI)) (.cons cI (.cons cHeap (.cons (.cons .bool .nil) .nil))))
abbrev r12_One_o2 : U := (.cons cHeap (.cons (.cons .bool .nil) .nil))
abbrev r12_One_e2 : U := (.cons cI (.cons cI (.cons .bool (.cons (.cons .bool .nil) (.cons (.sl (.int .u64)) (.cons (.sl cSpan) .nil))))))
def r12_One_s2r (v1 : List (List Int)) (v8 : Int) (c0 : Heap) (c16 : Bool × Unit) : Option (SRes r12_One_h2 r12_One_o2 r12_One_e2) :=
 bif decide (v8 < (c0.2.1.length : Int)) then
  bif decide (0 ≤ v8) then
   bif decide (v8 < (c0.2.1.length : Int)) then
    bif (c0.2.1.getD v8.toNat (0, 0, 0, ())).1 != 2 then
     some (.next (v1, wi64 (v8 + 1), c0, c16, ()))
    else
    (r12_copied (c0, ())).bind fun y1 =>
    (r12_One_l1 (v1, v8, 0, wi64 (32 * v8), c0, c16, (y1.1.2.2.1, ()), y1.1.1, y1.1.2.1, ())).bind fun s10 => match s10 with
    | .out s10 =>
     bif decide (0 ≤ s10.2.1) then
      bif decide (s10.2.1 < (s10.2.2.2.2.2.2.1.length : Int)) then
       bif decide (0 ≤ s10.2.1) then
        bif decide (s10.2.1 < ((s10.2.2.2.2.2.2.1.set s10.2.1.toNat (1, (s10.2.2.2.2.2.2.1.getD s10.2.1.toNat (0, 0, 0, ())).2)).length : Int)) then
         (r06_Free ((s10.2.2.2.2.2.2.1.set s10.2.1.toNat (1, (s10.2.2.2.2.2.2.1.getD s10.2.1.toNat (0, 0, 0, ())).2)).getD s10.2.1.toNat (0, 0, 0, ()), ())).bind fun y11 =>
         bif decide (0 ≤ s10.2.1) then
          bif decide (s10.2.1 < ((s10.2.2.2.2.2.2.1.set s10.2.1.toNat (1, (s10.2.2.2.2.2.2.1.getD s10.2.1.toNat (0, 0, 0, ())).2)).length : Int)) then
           (r04_Blocks (((s10.2.2.2.2.2.2.1.set s10.2.1.toNat (1, (s10.2.2.2.2.2.2.1.getD s10.2.1.toNat (0, 0, 0, ())).2)).getD s10.2.1.toNat (0, 0, 0, ())).2.1, ())).bind fun y12 =>
           bif y11.1 == y12.1 then
            (r11_Kept (s10.1, s10.2.1, ())).bind fun y13 =>
            bif !y13.1 then
             bif decide (0 ≤ s10.2.1) then
              bif decide (s10.2.1 < ((s10.2.2.2.2.2.2.1.set s10.2.1.toNat (1, (s10.2.2.2.2.2.2.1.getD s10.2.1.toNat (0, 0, 0, ())).2)).length : Int)) then
               some (.fin (.ret (s10.2.1, s10.2.2.1, true, s10.2.2.2.2.1, s10.2.2.2.2.2.1, (s10.2.2.2.2.2.2.1.set s10.2.1.toNat (1, (s10.2.2.2.2.2.2.1.getD s10.2.1.toNat (0, 0, 0, ())).2)).set s10.2.1.toNat (0, 0, 0, ()), ())))
              else none
             else none
            else
            some (.fin (.ret (s10.2.1, s10.2.2.1, true, s10.2.2.2.2.1, s10.2.2.2.2.2.1, s10.2.2.2.2.2.2.1.set s10.2.1.toNat (1, (s10.2.2.2.2.2.2.1.getD s10.2.1.toNat (0, 0, 0, ())).2), ())))
           else
           some (.fin (.ret (s10.2.1, s10.2.2.1, true, s10.2.2.2.2.1, s10.2.2.2.2.2.1, s10.2.2.2.2.2.2.1.set s10.2.1.toNat (1, (s10.2.2.2.2.2.2.1.getD s10.2.1.toNat (0, 0, 0, ())).2), ())))
          else none
         else none
        else none
       else none
      else none
     else none
    | .ret s10 =>
     none
   else none
  else none
 else
 some (.fin (.out (c0, c16, ())))
def r12_One_s2 (x : r12_One_h2.T) : Option (SRes r12_One_h2 r12_One_o2 r12_One_e2) := r12_One_s2r x.1 x.2.1 x.2.2.1 x.2.2.2.1
def r12_One_l2 (x : r12_One_h2.T) : Option (LRes r12_One_o2 r12_One_e2) := iterL r12_One_s2 9223372036854775808 x
def r12_One_r (a0 : Heap) (a1 : List (List Int)) : Option (Heap × Int × Int × Bool × Unit) :=
 (r12_One_l2 (a1, 0, a0, (false, ()), ())).bind fun s14 => match s14 with
 | .out s14 =>
  some (s14.1, 0, 0, false, ())
 | .ret s14 =>
  some ((s14.2.2.2.2.1, s14.2.2.2.2.2.1, s14.2.2.2.1), s14.1, s14.2.1, s14.2.2.1, ())
def r12_One (x : Heap × (List (List Int)) × Unit) : Option (Heap × Int × Int × Bool × Unit) := r12_One_r x.1 x.2.1
def r12_One_sm : Sum := ⟨(.cons cHeap (.cons (.sl (.arr 4 cI)) .nil)), (.cons (.d cHeap) (.cons (.d cI) (.cons (.d cI) (.cons (.d .bool) .nil)))), r12_One⟩
def r12_One_L0 : LoopSum := { hc := ⟨[], [1, 4, 9, 11, 12], [], [], [0, 16, 320, 914, 1298, 1442], [416, 417, 1426, 1427], 1490⟩, h := ⟨[(1, (.d cI)), (4, (.pvar 914 [])), (9, (.pvar 1298 [])), (11, (.pvar 1442 [])), (12, (.d cI))], [(0, (.d cHeap)), (16, (.cons .nilsl (.cons .nilsl (.d (.cons .bool .nil))))), (320, (.cons (.row 416) (.cons (.row 417) (.d (.cons .bool .nil))))), (914, (.cons .nilsl (.cons .nilsl (.d (.cons .bool .nil))))), (1298, (.d cSpan)), (1442, (.cons (.row 1426) (.cons (.row 1427) (.d (.cons .bool .nil)))))], [(416, (.int .u64), true), (417, cSpan, true), (1426, (.int .u64), true), (1427, cSpan, true)], 1490⟩, xid := 0, oc := ⟨[], [4, 11], [], [], [0, 16, 320, 914, 1442], [416, 417, 1426, 1427], 1490⟩, o := ⟨[(4, (.pvar 914 [])), (11, (.pvar 1442 []))], [(0, (.d cHeap)), (16, (.cons .nilsl (.cons .nilsl (.d (.cons .bool .nil))))), (320, (.cons (.row 416) (.cons (.row 417) (.d (.cons .bool .nil))))), (914, (.cons .nilsl (.cons .nilsl (.d (.cons .bool .nil))))), (1442, (.cons (.row 1426) (.cons (.row 1427) (.d (.cons .bool .nil)))))], [(416, (.int .u64), true), (417, cSpan, true), (1426, (.int .u64), true), (1427, cSpan, true)], 1490⟩, rc := ⟨[], [], [], [], [1490], [], 1490⟩, r := ⟨[], [], [], 1490⟩, F := r12_One_l0 }
def r12_One_L1 : LoopSum := { hc := ⟨[], [1, 2, 4, 8, 9, 10, 11], [(.key 320 [.fld 0], (.int .u64)), (.key 320 [.fld 1], cSpan)], [], [0, 16, 320], [], 416⟩, h := ⟨[(1, (.d (.sl (.arr 4 cI)))), (2, (.pvar 0 [])), (4, (.pvar 16 [])), (8, (.d cI)), (9, (.pvar 320 [])), (10, (.d cI)), (11, (.d cI))], [(0, (.d cHeap)), (16, (.cons .nilsl (.cons .nilsl (.d (.cons .bool .nil))))), (320, (.cons (.row 416) (.cons (.row 417) (.d (.cons .bool .nil)))))], [(416, (.int .u64), true), (417, cSpan, true)], 418⟩, xid := 2, oc := ⟨[], [1, 4, 8, 9, 10], [(.ptr 9 [.fld 0], (.int .u64)), (.ptr 9 [.fld 1], cSpan)], [], [16, 320], [], 416⟩, o := ⟨[(1, (.d (.sl (.arr 4 cI)))), (4, (.pvar 16 [])), (8, (.d cI)), (9, (.pvar 320 [])), (10, (.d cI))], [(16, (.cons .nilsl (.cons .nilsl (.d (.cons .bool .nil))))), (320, (.cons (.row 416) (.cons (.row 417) (.d (.cons .bool .nil)))))], [(416, (.int .u64), true), (417, cSpan, true)], 418⟩, rc := ⟨[], [], [], [], [416], [], 416⟩, r := ⟨[], [], [], 416⟩, F := r12_One_l1 }
def r12_One_L2 : LoopSum := { hc := ⟨[], [1, 2, 4, 8], [], [], [0, 16], [], 96⟩, h := ⟨[(1, (.d (.sl (.arr 4 cI)))), (2, (.pvar 0 [])), (4, (.pvar 16 [])), (8, (.d cI))], [(0, (.d cHeap)), (16, (.cons .nilsl (.cons .nilsl (.d (.cons .bool .nil)))))], [], 96⟩, xid := 0, oc := ⟨[], [2, 4], [], [], [0, 16], [], 96⟩, o := ⟨[(2, (.pvar 0 [])), (4, (.pvar 16 []))], [(0, (.d cHeap)), (16, (.cons .nilsl (.cons .nilsl (.d (.cons .bool .nil)))))], [], 96⟩, rc := ⟨[], [4, 5, 6, 7], [(.ptr 4 [.fld 0], (.int .u64)), (.ptr 4 [.fld 1], cSpan)], [], [16], [], 96⟩, r := ⟨[(4, (.pvar 16 [])), (5, (.d cI)), (6, (.d cI)), (7, (.d .bool))], [(16, (.cons (.row 96) (.cons (.row 97) (.d (.cons .bool .nil)))))], [(96, (.int .u64), true), (97, cSpan, true)], 98⟩, F := r12_One_l2 }
def r12_One_c : Ctx := ⟨[(65, r08_Get_sm), (69, r08_Black_sm), (82, r04_Words_sm), (83, r04_Blocks_sm), (91, r06_Free_sm), (141, r07_Find_sm), (190, r11_Kept_sm), (191, r07_with_sm), (196, r12_copied_sm), (236, r06_Give_sm)], [(169, Tryz.f169)], [⟨7, 169, 898, 0, r12_One_L0⟩, ⟨8, 117, 0, 2, r12_One_L1⟩, ⟨8, 117, 0, 0, r12_One_L2⟩]⟩
theorem r12_One_sem : SemOf Tryz.prog 117 r12_One_sm := semC (c := r12_One_c) Tryz.func117 (sc r08_Get_sem (sc r08_Black_sem (sc r04_Words_sem (sc r04_Blocks_sem (sc r06_Free_sem (sc r07_Find_sem (sc r11_Kept_sem (sc r07_with_sem (sc r12_copied_sem (sc r06_Give_sem an)))))))))) (fc (flC Tryz.func169) an) (ec (aeC [true, true, true, true, true, true, false, true, false, false] r12_One_s0 Tryz.func169) (ec (aeC [true, false, true, false, false, true, false, false, true, true, true, false, true, false, false] r12_One_s1 Tryz.func117) (ec (aeC [true, false, true, false, false] r12_One_s2 Tryz.func117) an))) 8
def r20_Sweeper_r (a0 : Wrld) : Option (Wrld × Int × Unit) :=
 bif a0.2.2.2.2.1 != 2 then
  some (a0, 0, ())
 else
 (r20_Caches (a0, ())).bind fun y1 =>
 (r12_One (a0.2.1, y1.1, ())).bind fun y2 =>
 (r12_Dirty (y2.1, ())).bind fun y3 =>
 bif y3.1 == 0 then
  some ((a0.1, y2.1, a0.2.2.1, a0.2.2.2.1, 0, a0.2.2.2.2.2), 5, ())
 else
 some ((a0.1, y2.1, a0.2.2), 1, ())
def r20_Sweeper (x : Wrld × Unit) : Option (Wrld × Int × Unit) := r20_Sweeper_r x.1
def r20_Sweeper_sm : Sum := ⟨(.cons cWrld .nil), (.cons (.d cWrld) (.cons (.d cI) .nil)), r20_Sweeper⟩
def r20_Sweeper_c : Ctx := ⟨[(49, r20_Caches_sm), (68, r12_Dirty_sm), (117, r12_One_sm)], [], []⟩
theorem r20_Sweeper_sem : SemOf Tryz.prog 51 r20_Sweeper_sm := semC (c := r20_Sweeper_c) Tryz.func51 (sc r20_Caches_sem (sc r12_Dirty_sem (sc r12_One_sem an))) an an 8
def r14_Push_r (a0 : List Val) (a1 : Int) (a2 : Val) : Option ((List Val) × Int × Unit) :=
 bif decide ((a0.length : Int) ≥ a1) then
  some (a0, 5, ())
 else
 bif decide ((0 + a0.length) * 16 ≤ 140737488355328) then
  bif decide ((a0.length + 1) * 16 ≤ 140737488355328) then
   some (a0 ++ [a2], 0, ())
  else none
 else none
def r14_Push (x : (List Val) × Int × Val × Unit) : Option ((List Val) × Int × Unit) := r14_Push_r x.1 x.2.1 x.2.2.1
def r14_Push_sm : Sum := ⟨(.cons (.sl cVal) (.cons cI (.cons cVal .nil))), (.cons (.d (.sl cVal)) (.cons (.d cI) .nil)), r14_Push⟩
def r14_Push_c : Ctx := ⟨[], [], []⟩
theorem r14_Push_sem : SemOf Tryz.prog 118 r14_Push_sm := semC (c := r14_Push_c) Tryz.func118 an an an 8
def r21_pushed_r (a0 : Wrld) (a1 : Int) (a2 : Val) : Option (Wrld × (Int × Int × Int × Val × Unit) × Unit) :=
 bif decide (0 ≤ a1) then
  bif decide (a1 < (a0.2.2.1.length : Int)) then
   (r14_Push ((a0.2.2.1.getD a1.toNat ([], 0, (0, 0, 0, 0, ()), 0, (0, 0, ()), List.replicate 4 0, ())).1, a0.1.2.2.1, a2, ())).bind fun y1 =>
   (r21_done (a0, a1, y1.1, 0, a2, ())).bind fun y2 =>
   some ((y2.1.1, y2.1.2.1, y2.1.2.2.1, y2.1.2.2.2), (y2.2.1.1, y2.2.1.2.1, y2.2.1.2.2.1, y2.2.1.2.2.2.1, ()), ())
  else none
 else none
def r21_pushed (x : Wrld × Int × Val × Unit) : Option (Wrld × (Int × Int × Int × Val × Unit) × Unit) := r21_pushed_r x.1 x.2.1 x.2.2.1
def r21_pushed_sm : Sum := ⟨(.cons cWrld (.cons cI (.cons cVal .nil))), (.cons (.cons (.d cRep) (.cons (.d cHeap) (.cons (.own cMut) (.d (.cons cMarker (.cons cI (.cons .bool (.cons cI (.cons (.sl cRep) .nil))))))))) (.cons (.cons (.d cI) (.cons (.d cI) (.cons (.d cI) (.cons (.d cVal) .nil)))) .nil)), r21_pushed⟩
def r21_pushed_c : Ctx := ⟨[(46, r21_done_sm), (118, r14_Push_sm)], [], []⟩
theorem r21_pushed_sem : SemOf Tryz.prog 52 r21_pushed_sm := semC (c := r21_pushed_c) Tryz.func52 (sc r21_done_sem (sc r14_Push_sem an)) an an 8
def r14_Pop_r (a0 : List Val) : Option ((List Val) × Val × Int × Unit) :=
 bif (a0.length : Int) == 0 then
  some (a0, (0, 0, ()), 3, ())
 else
 bif decide (0 ≤ (wi64 ((a0.length : Int) - 1))) then
  bif decide ((wi64 ((a0.length : Int) - 1)) ≤ (a0.length : Int)) then
   bif decide ((0 + ((a0.drop 0).take ((wi64 ((a0.length : Int) - 1)).toNat - 0)).length) * 16 ≤ 140737488355328) then
    bif decide (0 ≤ (wi64 ((a0.length : Int) - 1))) then
     bif decide ((wi64 ((a0.length : Int) - 1)) < (a0.length : Int)) then
      some ((a0.drop 0).take ((wi64 ((a0.length : Int) - 1)).toNat - 0), a0.getD (wi64 ((a0.length : Int) - 1)).toNat (0, 0, ()), 0, ())
     else none
    else none
   else none
  else none
 else none
def r14_Pop (x : (List Val) × Unit) : Option ((List Val) × Val × Int × Unit) := r14_Pop_r x.1
def r14_Pop_sm : Sum := ⟨(.cons (.sl cVal) .nil), (.cons (.d (.sl cVal)) (.cons (.d cVal) (.cons (.d cI) .nil))), r14_Pop⟩
def r14_Pop_c : Ctx := ⟨[], [], []⟩
theorem r14_Pop_sem : SemOf Tryz.prog 111 r14_Pop_sm := semC (c := r14_Pop_c) Tryz.func111 an an an 8
abbrev r08_with_h0 : U := (.cons cI (.cons (.int .u64) (.cons cI (.cons cHeap (.cons (.cons .bool .nil) (.cons (.cons .bool .nil) (.cons (.sl cSpan) (.cons (.sl (.int .u64)) .nil))))))))
abbrev r08_with_o0 : U := (.cons (.cons .bool .nil) (.cons (.cons .bool .nil) (.cons (.sl cSpan) (.cons (.sl (.int .u64)) .nil))))
abbrev r08_with_e0 : U := .nil
def r08_with_s0r (v1 : Int) (v2 : Int) (v8 : Int) (c0 : Heap) (c16 : Bool × Unit) (c80 : Bool × Unit) (r176 : List Span) (r240 : List Int) : Option (SRes r08_with_h0 r08_with_o0 r08_with_e0) :=
 bif decide (v8 < (c0.1.length : Int)) then
  bif decide (0 ≤ v8) then
   bif decide (v8 < (c0.1.length : Int)) then
    bif v8 == v1 then
     bif decide ((r240.length + 1) * 8 ≤ 140737488355328) then
      some (.next (v1, v2, wi64 (v8 + 1), c0, c16, c80, r176, r240 ++ [v2], ()))
     else none
    else
    bif decide ((r240.length + 1) * 8 ≤ 140737488355328) then
     some (.next (v1, v2, wi64 (v8 + 1), c0, c16, c80, r176, r240 ++ [c0.1.getD v8.toNat 0], ()))
    else none
   else none
  else none
 else
 some (.fin (.out (c16, c80, r176, r240, ())))
def r08_with_s0 (x : r08_with_h0.T) : Option (SRes r08_with_h0 r08_with_o0 r08_with_e0) := r08_with_s0r x.1 x.2.1 x.2.2.1 x.2.2.2.1 x.2.2.2.2.1 x.2.2.2.2.2.1 x.2.2.2.2.2.2.1 x.2.2.2.2.2.2.2.1
def r08_with_l0 (x : r08_with_h0.T) : Option (LRes r08_with_o0 r08_with_e0) := iterL r08_with_s0 9223372036854775808 x
def r08_with_r (a0 : Heap) (a1 : Int) (a2 : Int) : Option (Heap × Unit) :=
 bif decide (a0.2.1.length * 24 ≤ 140737488355328) then
  (r08_with_l0 (a1, a2, 0, a0, (false, ()), (a0.2.2.1, ()), a0.2.1, [], ())).bind fun s1 => match s1 with
  | .out s1 =>
   some ((s1.2.2.2.1, s1.2.2.1, s1.2.1), ())
  | .ret s1 =>
   none
 else none
def r08_with (x : Heap × Int × Int × Unit) : Option (Heap × Unit) := r08_with_r x.1 x.2.1 x.2.2.1
def r08_with_sm : Sum := ⟨(.cons cHeap (.cons cI (.cons (.int .u64) .nil))), (.cons (.cons (.own (.int .u64)) (.cons (.own cSpan) (.d (.cons .bool .nil)))) .nil), r08_with⟩
def r08_with_L0 : LoopSum := { hc := ⟨[], [1, 2, 3, 6, 7, 8], [(.key 80 [.fld 0], (.int .u64))], [], [0, 16, 80], [176], 240⟩, h := ⟨[(1, (.d cI)), (2, (.d (.int .u64))), (3, (.pvar 0 [])), (6, (.pvar 16 [])), (7, (.pvar 80 [])), (8, (.d cI))], [(0, (.d cHeap)), (16, (.cons .nilsl (.cons .nilsl (.d (.cons .bool .nil))))), (80, (.cons (.row 240) (.cons (.row 176) (.d (.cons .bool .nil)))))], [(176, cSpan, true), (240, (.int .u64), true)], 241⟩, xid := 0, oc := ⟨[], [6, 7], [(.ptr 7 [.fld 0], (.int .u64))], [], [16, 80], [176], 240⟩, o := ⟨[(6, (.pvar 16 [])), (7, (.pvar 80 []))], [(16, (.cons .nilsl (.cons .nilsl (.d (.cons .bool .nil))))), (80, (.cons (.row 240) (.cons (.row 176) (.d (.cons .bool .nil)))))], [(176, cSpan, true), (240, (.int .u64), true)], 241⟩, rc := ⟨[], [], [], [], [240], [], 240⟩, r := ⟨[], [], [], 240⟩, F := r08_with_l0 }
def r08_with_c : Ctx := ⟨[], [], [⟨8, 120, 0, 0, r08_with_L0⟩]⟩
theorem r08_with_sem : SemOf Tryz.prog 120 r08_with_sm := semC (c := r08_with_c) Tryz.func120 an an (ec (aeC [true, true, true, false, true, false, false] r08_with_s0 Tryz.func120) an) 8
def r08_Paint_r (a0 : Heap) (a1 : Int) : Option (Heap × Bool × Unit) :=
 (r08_Get (a0, a1, ())).bind fun y1 =>
 bif !y1.2.1 then
  some (a0, false, ())
 else
 (r02_Put ((y1.1.1, a0.2.2.1, y1.1.2.2), ())).bind fun y2 =>
 (r08_with (a0, a1, y2.1, ())).bind fun y3 =>
 some ((y3.1.1, y3.1.2.1, y3.1.2.2), true, ())
def r08_Paint (x : Heap × Int × Unit) : Option (Heap × Bool × Unit) := r08_Paint_r x.1 x.2.1
def r08_Paint_sm : Sum := ⟨(.cons cHeap (.cons cI .nil)), (.cons (.d cHeap) (.cons (.d .bool) .nil)), r08_Paint⟩
def r08_Paint_c : Ctx := ⟨[(65, r08_Get_sm), (120, r08_with_sm), (195, r02_Put_sm)], [], []⟩
theorem r08_Paint_sem : SemOf Tryz.prog 252 r08_Paint_sm := semC (c := r08_Paint_c) Tryz.func252 (sc r08_Get_sem (sc r08_with_sem (sc r02_Put_sem an))) an an 8
end
end Go.Proofs.YtkjpakaidjpjgaaGreatDoor.Den
