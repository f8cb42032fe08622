/- What functions come to. Printed by a program of this session. -/
import Derived.Test.YtkjpakaidjpjgaaGreatDoorDenF1
namespace Go.Proofs.YtkjpakaidjpjgaaGreatDoor.Den
open Go
set_option maxRecDepth 100000
set_option linter.unusedVariables false
noncomputable section
def snap_Begin_r (a0 : Rep) (a1 : Heap) (a2 : List Mut) : Option (Heap × Marker × Unit) :=
 (slices_Repeat ([a0.2.2.2.2.1], (a2.length : Int), ())).bind fun y1 =>
 (snap_Held (a2, ())).bind fun y2 =>
 (snap_Pending (a1, a2, ())).bind fun y3 =>
 (slices_Concat ([y2.1, y3.1], ())).bind fun y4 =>
 (mark_New (a0.2.2.2.1, y1.1, y4.1, ())).bind fun y5 =>
 (slices_Clone_uint64 (a1.1, ())).bind fun y6 =>
 (slices_Clone_api_Span (a1.2.1, ())).bind fun y7 =>
 some ((y6.1, y7.1, !a1.2.2.1, a1.2.2.2), ((y5.1.1.1, y5.1.1.2.1, y5.1.1.2.2), y5.1.2.1, y5.1.2.2.1, y5.1.2.2.2), ())
def snap_Begin (x : Rep × Heap × (List Mut) × Unit) : Option (Heap × Marker × Unit) := snap_Begin_r x.1 x.2.1 x.2.2.1
def snap_Begin_sm : Sum := ⟨(.cons cRep (.cons cHeap (.cons (.sl cMut) .nil))), (.cons (.cons (.own (.int .u64)) (.cons (.own cSpan) (.d (.cons .bool .nil)))) (.cons (.cons (.cons (.d cI) (.cons (.own cI) (.d .nil))) (.cons (.own cGrey) (.cons (.own cVal) (.d (.cons cI (.cons cI (.cons cI (.cons .bool .nil)))))))) .nil)), snap_Begin⟩
def snap_Begin_c : Ctx := ⟨[(90, snap_Held_sm), (163, slices_Clone_api_Span_sm), (228, slices_Clone_uint64_sm), (272, slices_Repeat_sm), (273, mark_New_sm), (274, slices_Concat_sm), (275, snap_Pending_sm)], [], []⟩
theorem snap_Begin_sem : SemOf Tryz.prog 216 snap_Begin_sm := semC (c := snap_Begin_c) Tryz.func216 (sc snap_Held_sem (sc slices_Clone_api_Span_sem (sc slices_Clone_uint64_sem (sc slices_Repeat_sem (sc mark_New_sem (sc slices_Concat_sem (sc snap_Pending_sem an))))))) an an 8
def cycle_idle_r (a0 : Wrld) : Option (Wrld × Int × Unit) :=
 bif !a0.2.2.2.2.2.1 then
  some (a0, 0, ())
 else
 (snap_Begin (a0.1, a0.2.1, a0.2.2.1, ())).bind fun y1 =>
 some ((a0.1, (y1.1.1, y1.1.2.1, y1.1.2.2), a0.2.2.1, ((y1.2.1.1.1, y1.2.1.1.2.1, y1.2.1.1.2.2), y1.2.1.2.1, y1.2.1.2.2.1, y1.2.1.2.2.2), 1, false, wi64 (a0.2.2.2.2.2.2.1 + 1), a0.2.2.2.2.2.2.2), 3, ())
def cycle_idle (x : Wrld × Unit) : Option (Wrld × Int × Unit) := cycle_idle_r x.1
def cycle_idle_sm : Sum := ⟨(.cons cWrld .nil), (.cons (.d cWrld) (.cons (.d cI) .nil)), cycle_idle⟩
def cycle_idle_c : Ctx := ⟨[(216, snap_Begin_sm)], [], []⟩
theorem cycle_idle_sem : SemOf Tryz.prog 148 cycle_idle_sm := semC (c := cycle_idle_c) Tryz.func148 (sc snap_Begin_sem an) an an 8
def str256 : ByteArray := ⟨#[0, 1, 1, 2, 1, 2, 2, 3, 1, 2, 2, 3, 2, 3, 3, 4, 1, 2, 2, 3, 2, 3, 3, 4, 2, 3, 3, 4, 3, 4, 4, 5, 1, 2, 2, 3, 2, 3, 3, 4, 2, 3, 3, 4, 3, 4, 4, 5, 2, 3, 3, 4, 3, 4, 4, 5, 3, 4, 4, 5, 4, 5, 5, 6, 1, 2, 2, 3, 2, 3, 3, 4, 2, 3, 3, 4, 3, 4, 4, 5, 2, 3, 3, 4, 3, 4, 4, 5, 3, 4, 4, 5, 4, 5, 5, 6, 2, 3, 3, 4, 3, 4, 4, 5, 3, 4, 4, 5, 4, 5, 5, 6, 3, 4, 4, 5, 4, 5, 5, 6, 4, 5, 5, 6, 5, 6, 6, 7, 1, 2, 2, 3, 2, 3, 3, 4, 2, 3, 3, 4, 3, 4, 4, 5, 2, 3, 3, 4, 3, 4, 4, 5, 3, 4, 4, 5, 4, 5, 5, 6, 2, 3, 3, 4, 3, 4, 4, 5, 3, 4, 4, 5, 4, 5, 5, 6, 3, 4, 4, 5, 4, 5, 5, 6, 4, 5, 5, 6, 5, 6, 6, 7, 2, 3, 3, 4, 3, 4, 4, 5, 3, 4, 4, 5, 4, 5, 5, 6, 3, 4, 4, 5, 4, 5, 5, 6, 4, 5, 5, 6, 5, 6, 6, 7, 3, 4, 4, 5, 4, 5, 5, 6, 4, 5, 5, 6, 5, 6, 6, 7, 4, 5, 5, 6, 5, 6, 6, 7, 5, 6, 6, 7, 6, 7, 7, 8]⟩
def math_bits_OnesCount32_r (a0 : Int) : Option (Int × Unit) :=
 bif decide (0 ≤ (shiftI false .u32 a0 24)) then
  bif decide ((shiftI false .u32 a0 24) < 256) then
   bif decide (0 ≤ (bitsI .and .u32 (shiftI false .u32 a0 16) 255)) then
    bif decide ((bitsI .and .u32 (shiftI false .u32 a0 16) 255) < 256) then
     bif decide (0 ≤ (bitsI .and .u32 (shiftI false .u32 a0 8) 255)) then
      bif decide ((bitsI .and .u32 (shiftI false .u32 a0 8) 255) < 256) then
       bif decide (0 ≤ (bitsI .and .u32 a0 255)) then
        bif decide ((bitsI .and .u32 a0 255) < 256) then
         some (wi64 (wu8 ((wu8 ((wu8 (((str256.data.toList.getD (shiftI false .u32 a0 24).toNat 0).toNat : Int) + ((str256.data.toList.getD (bitsI .and .u32 (shiftI false .u32 a0 16) 255).toNat 0).toNat : Int))) + ((str256.data.toList.getD (bitsI .and .u32 (shiftI false .u32 a0 8) 255).toNat 0).toNat : Int))) + ((str256.data.toList.getD (bitsI .and .u32 a0 255).toNat 0).toNat : Int))), ())
        else none
       else none
      else none
     else none
    else none
   else none
  else none
 else none
def math_bits_OnesCount32 (x : Int × Unit) : Option (Int × Unit) := math_bits_OnesCount32_r x.1
def math_bits_OnesCount32_sm : Sum := ⟨(.cons (.int .u32) .nil), (.cons (.d cI) .nil), math_bits_OnesCount32⟩
def math_bits_OnesCount32_c : Ctx := ⟨[], [], []⟩
theorem math_bits_OnesCount32_sem : SemOf Tryz.prog 283 math_bits_OnesCount32_sm := semC (c := math_bits_OnesCount32_c) Tryz.func283 an an an 8
def bits_Count_r (a0 : Int) : Option (Int × Unit) :=
 (math_bits_OnesCount32 (a0, ())).bind fun y1 =>
 some (y1.1, ())
def bits_Count (x : Int × Unit) : Option (Int × Unit) := bits_Count_r x.1
def bits_Count_sm : Sum := ⟨(.cons (.int .u32) .nil), (.cons (.d cI) .nil), bits_Count⟩
def bits_Count_c : Ctx := ⟨[(283, math_bits_OnesCount32_sm)], [], []⟩
theorem bits_Count_sem : SemOf Tryz.prog 221 bits_Count_sm := semC (c := bits_Count_c) Tryz.func221 (sc math_bits_OnesCount32_sem an) an an 8
def span_Used_r (a0 : Span) : Option (Int × Unit) :=
 (span_inUse (a0, ())).bind fun y1 =>
 bif !y1.1 then
  some (0, ())
 else
 (class_Blocks (a0.2.1, ())).bind fun y2 =>
 (bits_Count (a0.2.2.1, ())).bind fun y3 =>
 some (wi64 (y2.1 - y3.1), ())
def span_Used (x : Span × Unit) : Option (Int × Unit) := span_Used_r x.1
def span_Used_sm : Sum := ⟨(.cons cSpan .nil), (.cons (.d cI) .nil), span_Used⟩
def span_Used_c : Ctx := ⟨[(164, class_Blocks_sm), (220, span_inUse_sm), (221, bits_Count_sm)], [], []⟩
theorem span_Used_sem : SemOf Tryz.prog 152 span_Used_sm := semC (c := span_Used_c) Tryz.func152 (sc class_Blocks_sem (sc span_inUse_sem (sc bits_Count_sem an))) an an 8
abbrev heap_Used_h0 : U := (.cons cI (.cons (.sl cSpan) cVal))
abbrev heap_Used_o0 : U := (.cons cI .nil)
abbrev heap_Used_e0 : U := .nil
def heap_Used_s0r (v3 : Int) (v7 : List Span) (v8 : Int) (v9 : Int) : Option (SRes heap_Used_h0 heap_Used_o0 heap_Used_e0) :=
 bif decide (v9 < v8) then
  bif decide (0 ≤ v9) then
   bif decide (v9 < (v7.length : Int)) then
    (span_Used (v7.getD v9.toNat (0, 0, 0, ()), ())).bind fun y1 =>
    (class_Words ((v7.getD v9.toNat (0, 0, 0, ())).2.1, ())).bind fun y2 =>
    some (.next (wi64 (v3 + (wi64 (y1.1 * y2.1))), v7, v8, wi64 (v9 + 1), ()))
   else none
  else none
 else
 some (.fin (.out (v3, ())))
def heap_Used_s0 (x : heap_Used_h0.T) : Option (SRes heap_Used_h0 heap_Used_o0 heap_Used_e0) := heap_Used_s0r x.1 x.2.1 x.2.2.1 x.2.2.2.1
def heap_Used_l0 (x : heap_Used_h0.T) : Option (LRes heap_Used_o0 heap_Used_e0) := iterL heap_Used_s0 9223372036854775808 x
def heap_Used_r (a0 : Heap) : Option (Int × Unit) :=
 (heap_Used_l0 (0, a0.2.1, (a0.2.1.length : Int), 0, ())).bind fun s3 => match s3 with
 | .out s3 =>
  some (s3.1, ())
 | .ret s3 =>
  none
def heap_Used (x : Heap × Unit) : Option (Int × Unit) := heap_Used_r x.1
def heap_Used_sm : Sum := ⟨(.cons cHeap .nil), (.cons (.d cI) .nil), heap_Used⟩
def heap_Used_L0 : LoopSum := { hc := ⟨[], [3, 7, 8, 9], [], [], [], [], 112⟩, h := ⟨[(3, (.d cI)), (7, (.d (.sl cSpan))), (8, (.d cI)), (9, (.d cI))], [], [], 112⟩, xid := 0, oc := ⟨[], [3], [], [], [], [], 112⟩, o := ⟨[(3, (.d cI))], [], [], 112⟩, rc := ⟨[], [], [], [], [112], [], 112⟩, r := ⟨[], [], [], 112⟩, F := heap_Used_l0 }
def heap_Used_c : Ctx := ⟨[(152, span_Used_sm), (153, class_Words_sm)], [], [⟨8, 86, 0, 0, heap_Used_L0⟩]⟩
theorem heap_Used_sem : SemOf Tryz.prog 86 heap_Used_sm := semC (c := heap_Used_c) Tryz.func86 (sc span_Used_sem (sc class_Words_sem an)) an (ec (aeC [true, true, false, true, false, false] heap_Used_s0 Tryz.func86) an) 8
abbrev reach_Words_h0 : U := (.cons cI (.cons (.sl cI) (.cons cI (.cons cI (.cons cHeap (.cons (.sl (.cons cI (.cons .bool .nil))) .nil))))))
abbrev reach_Words_o0 : U := (.cons cI .nil)
abbrev reach_Words_e0 : U := .nil
def reach_Words_s0r (v6 : Int) (v12 : List Int) (v13 : Int) (v14 : Int) (c0 : Heap) (c32 : List (Int × Bool × Unit)) : Option (SRes reach_Words_h0 reach_Words_o0 reach_Words_e0) :=
 bif decide (v14 < v13) then
  bif decide (0 ≤ v14) then
   bif decide (v14 < (v12.length : Int)) then
    (object_Get (c0, v12.getD v14.toNat 0, ())).bind fun y1 =>
    bif y1.2.1 then
     bif !(mget false c32 (v12.getD v14.toNat 0)) then
      (class_Words (y1.1.2.2.1, ())).bind fun y2 =>
      bif decide (c32.length < 9223372036854775807) then
       some (.next (wi64 (v6 + y2.1), v12, v13, wi64 (v14 + 1), c0, mput c32 (v12.getD v14.toNat 0) true, ()))
      else none
     else
     bif decide (c32.length < 9223372036854775807) then
      some (.next (v6, v12, v13, wi64 (v14 + 1), c0, mput c32 (v12.getD v14.toNat 0) true, ()))
     else none
    else
    bif decide (c32.length < 9223372036854775807) then
     some (.next (v6, v12, v13, wi64 (v14 + 1), c0, mput c32 (v12.getD v14.toNat 0) true, ()))
    else none
   else none
  else none
 else
 some (.fin (.out (v6, ())))
def reach_Words_s0 (x : reach_Words_h0.T) : Option (SRes reach_Words_h0 reach_Words_o0 reach_Words_e0) := reach_Words_s0r x.1 x.2.1 x.2.2.1 x.2.2.2.1 x.2.2.2.2.1 x.2.2.2.2.2.1
def reach_Words_l0 (x : reach_Words_h0.T) : Option (LRes reach_Words_o0 reach_Words_e0) := iterL reach_Words_s0 9223372036854775808 x
def reach_Words_r (a0 : Heap) (a1 : List Int) : Option (Int × Unit) :=
 (reach_Words_l0 (0, a1, (a1.length : Int), 0, a0, [], ())).bind fun s3 => match s3 with
 | .out s3 =>
  some (s3.1, ())
 | .ret s3 =>
  none
def reach_Words (x : Heap × (List Int) × Unit) : Option (Int × Unit) := reach_Words_r x.1 x.2.1
def reach_Words_sm : Sum := ⟨(.cons cHeap (.cons (.sl cI) .nil)), (.cons (.d cI) .nil), reach_Words⟩
def reach_Words_L0 : LoopSum := { hc := ⟨[], [2, 5, 6, 12, 13, 14], [], [], [0, 32], [], 128⟩, h := ⟨[(2, (.pvar 0 [])), (5, (.mp 32)), (6, (.d cI)), (12, (.d (.sl cI))), (13, (.d cI)), (14, (.d cI))], [(0, (.d cHeap)), (32, (.mapd .bool))], [], 128⟩, xid := 0, oc := ⟨[], [6], [], [], [], [], 128⟩, o := ⟨[(6, (.d cI))], [], [], 128⟩, rc := ⟨[], [], [], [], [128], [], 128⟩, r := ⟨[], [], [], 128⟩, F := reach_Words_l0 }
def reach_Words_c : Ctx := ⟨[(130, object_Get_sm), (153, class_Words_sm)], [], [⟨8, 87, 0, 0, reach_Words_L0⟩]⟩
theorem reach_Words_sem : SemOf Tryz.prog 87 reach_Words_sm := semC (c := reach_Words_c) Tryz.func87 (sc object_Get_sem (sc class_Words_sem an)) an (ec (aeC [true, true, true, false, true, false, false] reach_Words_s0 Tryz.func87) an) 8
abbrev object_List_h0 : U := (.cons cI (.cons (.sl cSpan) (.cons cI (.cons cI (.cons cI (.cons cI (.cons cHeap (.cons cSpan (.cons (.sl cI) .nil)))))))))
abbrev object_List_o0 : U := (.cons (.sl cSpan) (.cons cI (.cons cI (.cons cHeap (.cons (.sl cI) .nil)))))
abbrev object_List_e0 : U := .nil
def object_List_s0r (v3 : Int) (v10 : List Span) (v11 : Int) (v12 : Int) (v22 : Int) (v23 : Int) (c80 : Heap) (c273 : Span) (r433 : List Int) : Option (SRes object_List_h0 object_List_o0 object_List_e0) :=
 bif decide (v23 < v22) then
  (class_Words (c273.2.1, ())).bind fun y2 =>
  (object_Get (c80, wi64 ((wi64 (v3 * 32)) + (wi64 (v23 * y2.1))), ())).bind fun y3 =>
  bif y3.2.1 then
   bif decide ((r433.length + 1) * 8 ≤ 140737488355328) then
    some (.next (v3, v10, v11, v12, v22, wi64 (v23 + 1), c80, c273, r433 ++ [wi64 ((wi64 (v3 * 32)) + (wi64 (v23 * y2.1)))], ()))
   else none
  else
  some (.next (v3, v10, v11, v12, v22, wi64 (v23 + 1), c80, c273, r433, ()))
 else
 some (.fin (.out (v10, v11, v12, c80, r433, ())))
def object_List_s0 (x : object_List_h0.T) : Option (SRes object_List_h0 object_List_o0 object_List_e0) := object_List_s0r x.1 x.2.1 x.2.2.1 x.2.2.2.1 x.2.2.2.2.1 x.2.2.2.2.2.1 x.2.2.2.2.2.2.1 x.2.2.2.2.2.2.2.1 x.2.2.2.2.2.2.2.2.1
def object_List_l0 (x : object_List_h0.T) : Option (LRes object_List_o0 object_List_e0) := iterL object_List_s0 9223372036854775808 x
abbrev object_List_h1 : U := (.cons (.sl cSpan) (.cons cI (.cons cI (.cons cHeap (.cons (.sl cI) .nil)))))
abbrev object_List_o1 : U := (.cons (.sl cI) .nil)
abbrev object_List_e1 : U := .nil
def object_List_s1r (v10 : List Span) (v11 : Int) (v12 : Int) (c80 : Heap) (r208 : List Int) : Option (SRes object_List_h1 object_List_o1 object_List_e1) :=
 bif decide (v12 < v11) then
  bif decide (0 ≤ v12) then
   bif decide (v12 < (v10.length : Int)) then
    bif (v10.getD v12.toNat (0, 0, 0, ())).1 == 0 then
     some (.next (v10, v11, wi64 (v12 + 1), c80, r208, ()))
    else
    (class_Blocks ((v10.getD v12.toNat (0, 0, 0, ())).2.1, ())).bind fun y1 =>
    (object_List_l0 (v12, v10, v11, v12, y1.1, 0, c80, v10.getD v12.toNat (0, 0, 0, ()), r208, ())).bind fun s4 => match s4 with
    | .out s4 =>
     some (.next (s4.1, s4.2.1, wi64 (s4.2.2.1 + 1), s4.2.2.2.1, s4.2.2.2.2.1, ()))
    | .ret s4 =>
     none
   else none
  else none
 else
 some (.fin (.out (r208, ())))
def object_List_s1 (x : object_List_h1.T) : Option (SRes object_List_h1 object_List_o1 object_List_e1) := object_List_s1r x.1 x.2.1 x.2.2.1 x.2.2.2.1 x.2.2.2.2.1
def object_List_l1 (x : object_List_h1.T) : Option (LRes object_List_o1 object_List_e1) := iterL object_List_s1 9223372036854775808 x
def object_List_r (a0 : Heap) : Option ((List Int) × Unit) :=
 (object_List_l1 (a0.2.1, (a0.2.1.length : Int), 0, a0, [], ())).bind fun s5 => match s5 with
 | .out s5 =>
  some (s5.1, ())
 | .ret s5 =>
  none
def object_List (x : Heap × Unit) : Option ((List Int) × Unit) := object_List_r x.1
def object_List_sm : Sum := ⟨(.cons cHeap .nil), (.cons (.own cI) .nil), object_List⟩
def object_List_L0 : LoopSum := { hc := ⟨[], [0, 1, 3, 4, 10, 11, 12, 22, 23], [(.key 32 [], cI)], [], [32, 80, 273], [], 433⟩, h := ⟨[(0, (.fn 132 (.cons (.pvar 32 []) .nil) .yld)), (1, (.pvar 80 [])), (3, (.d cI)), (4, (.pvar 273 [])), (10, (.d (.sl cSpan))), (11, (.d cI)), (12, (.d cI)), (22, (.d cI)), (23, (.d cI))], [(32, (.row 433)), (80, (.d cHeap)), (273, (.d cSpan))], [(433, cI, true)], 434⟩, xid := 2, oc := ⟨[], [0, 1, 10, 11, 12], [(.key 32 [], cI)], [], [32, 80], [], 433⟩, o := ⟨[(0, (.fn 132 (.cons (.pvar 32 []) .nil) .yld)), (1, (.pvar 80 [])), (10, (.d (.sl cSpan))), (11, (.d cI)), (12, (.d cI))], [(32, (.row 433)), (80, (.d cHeap))], [(433, cI, true)], 434⟩, rc := ⟨[], [], [], [], [433], [], 433⟩, r := ⟨[], [], [], 433⟩, F := object_List_l0 }
def object_List_L1 : LoopSum := { hc := ⟨[], [0, 1, 10, 11, 12], [(.key 32 [], cI)], [], [32, 80], [], 208⟩, h := ⟨[(0, (.fn 132 (.cons (.pvar 32 []) .nil) .yld)), (1, (.pvar 80 [])), (10, (.d (.sl cSpan))), (11, (.d cI)), (12, (.d cI))], [(32, (.row 208)), (80, (.d cHeap))], [(208, cI, true)], 209⟩, xid := 0, oc := ⟨[], [], [(.key 32 [], cI)], [], [32], [], 208⟩, o := ⟨[], [(32, (.row 208))], [(208, cI, true)], 209⟩, rc := ⟨[], [], [], [], [208], [], 208⟩, r := ⟨[], [], [], 208⟩, F := object_List_l1 }
def object_List_c : Ctx := ⟨[(130, object_Get_sm), (153, class_Words_sm), (164, class_Blocks_sm)], [(132, Tryz.f132), (204, Tryz.f204), (266, Tryz.f266)], [⟨7, 266, 144, 2, object_List_L0⟩, ⟨7, 266, 144, 0, object_List_L1⟩]⟩
theorem object_List_sem : SemOf Tryz.prog 132 object_List_sm := semC (c := object_List_c) Tryz.func132 (sc object_Get_sem (sc class_Words_sem (sc class_Blocks_sem an))) (fc (flC Tryz.func132 (hG := rng_some [3] (by kernel_rfl) (by kernel_rfl))) (fc (flC Tryz.func204) (fc (flC Tryz.func266) an))) (ec (aeC [true, false, false, true, true, false, false, true, true, true, false, false] object_List_s0 Tryz.func266) (ec (aeC [true, false, false] object_List_s1 Tryz.func266) an)) 8 (hG := rng_some [3] (by kernel_rfl) (by kernel_rfl))
abbrev reach_Black_h0 : U := (.cons cI (.cons cI (.cons cHeap (.cons (.sl cI) .nil))))
abbrev reach_Black_o0 : U := (.cons cHeap (.cons (.sl cI) .nil))
abbrev reach_Black_e0 : U := (.cons cI (.cons cHeap (.cons (.sl cI) .nil)))
def reach_Black_s0r (v7 : Int) (v8 : Int) (c0 : Heap) (r48 : List Int) : Option (SRes reach_Black_h0 reach_Black_o0 reach_Black_e0) :=
 bif decide (v8 < v7) then
  bif decide (0 ≤ v8) then
   bif decide (v8 < (r48.length : Int)) then
    (object_Black (c0, r48.getD v8.toNat 0, ())).bind fun y2 =>
    bif !y2.1 then
     some (.fin (.ret (v8, c0, r48, ())))
    else
    some (.next (v7, wi64 (v8 + 1), c0, r48, ()))
   else none
  else none
 else
 some (.fin (.out (c0, r48, ())))
def reach_Black_s0 (x : reach_Black_h0.T) : Option (SRes reach_Black_h0 reach_Black_o0 reach_Black_e0) := reach_Black_s0r x.1 x.2.1 x.2.2.1 x.2.2.2.1
def reach_Black_l0 (x : reach_Black_h0.T) : Option (LRes reach_Black_o0 reach_Black_e0) := iterL reach_Black_s0 9223372036854775808 x
abbrev reach_Black_h1 : U := (.cons cI (.cons cI (.cons cHeap (.cons (.sl cI) .nil))))
abbrev reach_Black_o1 : U := cGrey
abbrev reach_Black_e1 : U := .nil
def reach_Black_s1r (v5 : Int) (v6 : Int) (c0 : Heap) (r48 : List Int) : Option (SRes reach_Black_h1 reach_Black_o1 reach_Black_e1) :=
 bif decide (v6 < (r48.length : Int)) then
  bif decide (0 ≤ v6) then
   bif decide (v6 < (r48.length : Int)) then
    (object_Black (c0, r48.getD v6.toNat 0, ())).bind fun y4 =>
    bif !(!y4.1) then
     bif decide (0 ≤ v5) then
      bif decide (v5 < (r48.length : Int)) then
       some (.next (wi64 (v5 + 1), wi64 (v6 + 1), c0, r48.set v5.toNat (r48.getD v6.toNat 0), ()))
      else none
     else none
    else
    some (.next (v5, wi64 (v6 + 1), c0, r48, ()))
   else none
  else none
 else
 some (.fin (.out (v5, r48, ())))
def reach_Black_s1 (x : reach_Black_h1.T) : Option (SRes reach_Black_h1 reach_Black_o1 reach_Black_e1) := reach_Black_s1r x.1 x.2.1 x.2.2.1 x.2.2.2.1
def reach_Black_l1 (x : reach_Black_h1.T) : Option (LRes reach_Black_o1 reach_Black_e1) := iterL reach_Black_s1 9223372036854775808 x
def reach_Black_r (a0 : Heap) : Option ((List Int) × Unit) :=
 (object_List (a0, ())).bind fun y1 =>
 (reach_Black_l0 ((y1.1.length : Int), 0, a0, y1.1, ())).bind fun s3 => match s3 with
 | .out s3 =>
  some (s3.2.1, ())
 | .ret s3 =>
  bif s3.1 == (-1) then
   some (s3.2.2.1, ())
  else
  (reach_Black_l1 (s3.1, wi64 (s3.1 + 1), s3.2.1, s3.2.2.1, ())).bind fun s5 => match s5 with
  | .out s5 =>
   bif decide (0 ≤ s5.1) then
    bif decide (s5.1 ≤ (s5.2.1.length : Int)) then
     bif decide ((s5.2.1.length : Int) ≤ (s5.2.1.length : Int)) then
      bif decide (0 ≤ s5.1) then
       bif decide (s5.1 ≤ ((segSet s5.2.1 s5.1.toNat (List.replicate ((s5.2.1.length : Int).toNat - s5.1.toNat) 0)).length : Int)) then
        some (((segSet s5.2.1 s5.1.toNat (List.replicate ((s5.2.1.length : Int).toNat - s5.1.toNat) 0)).drop 0).take (s5.1.toNat - 0), ())
       else none
      else none
     else none
    else none
   else none
  | .ret s5 =>
   none
def reach_Black (x : Heap × Unit) : Option ((List Int) × Unit) := reach_Black_r x.1
def reach_Black_sm : Sum := ⟨(.cons cHeap .nil), (.cons (.d (.sl cI)) .nil), reach_Black⟩
def reach_Black_L0 : LoopSum := { hc := ⟨[], [0, 1, 7, 8], [], [], [0], [48], 256⟩, h := ⟨[(0, (.row 48)), (1, (.fn 154 .nil (.cons (.pvar 0 []) .nil))), (7, (.d cI)), (8, (.d cI))], [(0, (.d cHeap))], [(48, cI, true)], 256⟩, xid := 0, oc := ⟨[], [], [], [], [0], [48], 256⟩, o := ⟨[], [(0, (.d cHeap))], [(48, cI, true)], 256⟩, rc := ⟨[], [4], [], [], [0], [48], 256⟩, r := ⟨[(4, (.d cI))], [(0, (.d cHeap))], [(48, cI, true)], 256⟩, F := reach_Black_l0 }
def reach_Black_L1 : LoopSum := { hc := ⟨[], [0, 1, 5, 6], [], [], [0], [48], 336⟩, h := ⟨[(0, (.row 48)), (1, (.fn 154 .nil (.cons (.pvar 0 []) .nil))), (5, (.d cI)), (6, (.d cI))], [(0, (.d cHeap))], [(48, cI, true)], 336⟩, xid := 0, oc := ⟨[], [0, 5], [], [], [], [48], 336⟩, o := ⟨[(0, (.row 48)), (5, (.d cI))], [], [(48, cI, true)], 336⟩, rc := ⟨[], [], [], [], [336], [], 336⟩, r := ⟨[], [], [], 336⟩, F := reach_Black_l1 }
def reach_Black_c : Ctx := ⟨[(132, object_List_sm), (136, object_Black_sm)], [(138, Tryz.f138), (154, Tryz.f154), (200, Tryz.f200)], [⟨6, 200, 192, 0, reach_Black_L0⟩, ⟨7, 138, 112, 0, reach_Black_L1⟩]⟩
theorem reach_Black_sem : SemOf Tryz.prog 88 reach_Black_sm := semC (c := reach_Black_c) Tryz.func88 (sc object_List_sem (sc object_Black_sem an)) (fc (flC Tryz.func138) (fc (flC Tryz.func154) (fc (flC Tryz.func200) an))) (ec (aeC [true, false, true, false, false] reach_Black_s0 Tryz.func200) (ec (aeC [true, true, true, false, true, false, false] reach_Black_s1 Tryz.func138) an)) 8
abbrev roots_Refs_h0 : U := (.cons (.sl cVal) (.cons cI cGrey))
abbrev roots_Refs_o0 : U := (.cons (.sl cI) .nil)
abbrev roots_Refs_e0 : U := .nil
def roots_Refs_s0r (v6 : List Val) (v7 : Int) (v8 : Int) (r80 : List Int) : Option (SRes roots_Refs_h0 roots_Refs_o0 roots_Refs_e0) :=
 bif decide (v8 < v7) then
  bif decide (0 ≤ v8) then
   bif decide (v8 < (v6.length : Int)) then
    bif (v6.getD v8.toNat (0, 0, ())).1 == 2 then
     bif decide ((r80.length + 1) * 8 ≤ 140737488355328) then
      some (.next (v6, v7, wi64 (v8 + 1), r80 ++ [(v6.getD v8.toNat (0, 0, ())).2.1], ()))
     else none
    else
    some (.next (v6, v7, wi64 (v8 + 1), r80, ()))
   else none
  else none
 else
 some (.fin (.out (r80, ())))
def roots_Refs_s0 (x : roots_Refs_h0.T) : Option (SRes roots_Refs_h0 roots_Refs_o0 roots_Refs_e0) := roots_Refs_s0r x.1 x.2.1 x.2.2.1 x.2.2.2.1
def roots_Refs_l0 (x : roots_Refs_h0.T) : Option (LRes roots_Refs_o0 roots_Refs_e0) := iterL roots_Refs_s0 9223372036854775808 x
def roots_Refs_r (a0 : List Val) : Option ((List Int) × Unit) :=
 (roots_Refs_l0 (a0, (a0.length : Int), 0, [], ())).bind fun s1 => match s1 with
 | .out s1 =>
  some (s1.1, ())
 | .ret s1 =>
  none
def roots_Refs (x : (List Val) × Unit) : Option ((List Int) × Unit) := roots_Refs_r x.1
def roots_Refs_sm : Sum := ⟨(.cons (.sl cVal) .nil), (.cons (.own cI) .nil), roots_Refs⟩
def roots_Refs_L0 : LoopSum := { hc := ⟨[], [3, 6, 7, 8], [(.tmp 3, cI)], [], [], [], 80⟩, h := ⟨[(3, (.row 80)), (6, (.d (.sl cVal))), (7, (.d cI)), (8, (.d cI))], [], [(80, cI, true)], 81⟩, xid := 0, oc := ⟨[], [3], [(.tmp 3, cI)], [], [], [], 80⟩, o := ⟨[(3, (.row 80))], [], [(80, cI, true)], 81⟩, rc := ⟨[], [], [], [], [80], [], 80⟩, r := ⟨[], [], [], 80⟩, F := roots_Refs_l0 }
def roots_Refs_c : Ctx := ⟨[], [], [⟨8, 128, 0, 0, roots_Refs_L0⟩]⟩
theorem roots_Refs_sem : SemOf Tryz.prog 128 roots_Refs_sm := semC (c := roots_Refs_c) Tryz.func128 an an (ec (aeC [true, true, false, true, false, false] roots_Refs_s0 Tryz.func128) an) 8
abbrev object_Refs_h0 : U := (.cons cI (.cons cI (.cons cI (.cons cHeap (.cons (.sl cI) .nil)))))
abbrev object_Refs_o0 : U := (.cons (.sl cI) .nil)
abbrev object_Refs_e0 : U := .nil
def object_Refs_s0r (v1 : Int) (v17 : Int) (v18 : Int) (c0 : Heap) (r240 : List Int) : Option (SRes object_Refs_h0 object_Refs_o0 object_Refs_e0) :=
 bif decide (v18 < v17) then
  bif decide (0 ≤ (wi64 ((wi64 (v1 + 1)) + v18))) then
   bif decide ((wi64 ((wi64 (v1 + 1)) + v18)) < (c0.1.length : Int)) then
    (word_Get (c0.1.getD (wi64 ((wi64 (v1 + 1)) + v18)).toNat 0, ())).bind fun y2 =>
    bif y2.1.1 == 2 then
     bif decide ((r240.length + 1) * 8 ≤ 140737488355328) then
      some (.next (v1, v17, wi64 (v18 + 1), c0, r240 ++ [y2.1.2.1], ()))
     else none
    else
    some (.next (v1, v17, wi64 (v18 + 1), c0, r240, ()))
   else none
  else none
 else
 some (.fin (.out (r240, ())))
def object_Refs_s0 (x : object_Refs_h0.T) : Option (SRes object_Refs_h0 object_Refs_o0 object_Refs_e0) := object_Refs_s0r x.1 x.2.1 x.2.2.1 x.2.2.2.1 x.2.2.2.2.1
def object_Refs_l0 (x : object_Refs_h0.T) : Option (LRes object_Refs_o0 object_Refs_e0) := iterL object_Refs_s0 9223372036854775808 x
def object_Refs_r (a0 : Heap) (a1 : Int) : Option ((List Int) × Unit) :=
 (object_Get (a0, a1, ())).bind fun y1 =>
 (object_Refs_l0 (a1, y1.1.2.2.2.1, 0, a0, [], ())).bind fun s3 => match s3 with
 | .out s3 =>
  some (s3.1, ())
 | .ret s3 =>
  none
def object_Refs (x : Heap × Int × Unit) : Option ((List Int) × Unit) := object_Refs_r x.1 x.2.1
def object_Refs_sm : Sum := ⟨(.cons cHeap (.cons cI .nil)), (.cons (.own cI) .nil), object_Refs⟩
def object_Refs_L0 : LoopSum := { hc := ⟨[], [1, 2, 5, 17, 18], [(.tmp 5, cI)], [], [0], [], 240⟩, h := ⟨[(1, (.d cI)), (2, (.pvar 0 [])), (5, (.row 240)), (17, (.d cI)), (18, (.d cI))], [(0, (.d cHeap))], [(240, cI, true)], 241⟩, xid := 0, oc := ⟨[], [5], [(.tmp 5, cI)], [], [], [], 240⟩, o := ⟨[(5, (.row 240))], [], [(240, cI, true)], 241⟩, rc := ⟨[], [], [], [], [240], [], 240⟩, r := ⟨[], [], [], 240⟩, F := object_Refs_l0 }
def object_Refs_c : Ctx := ⟨[(130, object_Get_sm), (223, word_Get_sm)], [], [⟨8, 155, 0, 0, object_Refs_L0⟩]⟩
theorem object_Refs_sem : SemOf Tryz.prog 155 object_Refs_sm := semC (c := object_Refs_c) Tryz.func155 (sc object_Get_sem (sc word_Get_sem an)) an (ec (aeC [true, true, true, false, true, false, false] object_Refs_s0 Tryz.func155) an) 8
abbrev reach_From_h0 : U := (.cons cHeap (.cons (.sl (.cons cI (.cons .bool .nil))) (.cons (.sl cI) .nil)))
abbrev reach_From_o0 : U := (.cons (.sl (.cons cI (.cons .bool .nil))) .nil)
abbrev reach_From_e0 : U := .nil
def reach_From_s0r (c0 : Heap) (c32 : List (Int × Bool × Unit)) (r112 : List Int) : Option (SRes reach_From_h0 reach_From_o0 reach_From_e0) :=
 bif decide ((r112.length : Int) > 0) then
  bif decide (0 ≤ (wi64 ((r112.length : Int) - 1))) then
   bif decide ((wi64 ((r112.length : Int) - 1)) < (r112.length : Int)) then
    bif decide (0 ≤ (wi64 ((r112.length : Int) - 1))) then
     bif decide ((wi64 ((r112.length : Int) - 1)) ≤ (r112.length : Int)) then
      (object_Get (c0, r112.getD (wi64 ((r112.length : Int) - 1)).toNat 0, ())).bind fun y2 =>
      bif !y2.2.1 then
       some (.next (c0, c32, (r112.drop 0).take ((wi64 ((r112.length : Int) - 1)).toNat - 0), ()))
      else
      bif mget false c32 (r112.getD (wi64 ((r112.length : Int) - 1)).toNat 0) then
       some (.next (c0, c32, (r112.drop 0).take ((wi64 ((r112.length : Int) - 1)).toNat - 0), ()))
      else
      bif decide (c32.length < 9223372036854775807) then
       (object_Refs (c0, r112.getD (wi64 ((r112.length : Int) - 1)).toNat 0, ())).bind fun y3 =>
       bif decide ((((r112.drop 0).take ((wi64 ((r112.length : Int) - 1)).toNat - 0)).length + y3.1.length) * 8 ≤ 140737488355328) then
        some (.next (c0, mput c32 (r112.getD (wi64 ((r112.length : Int) - 1)).toNat 0) true, ((r112.drop 0).take ((wi64 ((r112.length : Int) - 1)).toNat - 0)) ++ y3.1, ()))
       else none
      else none
     else none
    else none
   else none
  else none
 else
 some (.fin (.out (c32, ())))
def reach_From_s0 (x : reach_From_h0.T) : Option (SRes reach_From_h0 reach_From_o0 reach_From_e0) := reach_From_s0r x.1 x.2.1 x.2.2.1
def reach_From_l0 (x : reach_From_h0.T) : Option (LRes reach_From_o0 reach_From_e0) := iterL reach_From_s0 9223372036854775808 x
def reach_From_r (a0 : Heap) (a1 : List Val) : Option ((List Int) × Unit) :=
 (roots_Refs (a1, ())).bind fun y1 =>
 (reach_From_l0 (a0, [], y1.1, ())).bind fun s4 => match s4 with
 | .out s4 =>
  bif s4.1.all fun p => inI64 p.1 then
   bif decide (s4.1.length * 8 ≤ 140737488355328) then
    some (isort (s4.1.map fun p => p.1), ())
   else none
  else none
 | .ret s4 =>
  none
def reach_From (x : Heap × (List Val) × Unit) : Option ((List Int) × Unit) := reach_From_r x.1 x.2.1
def reach_From_sm : Sum := ⟨(.cons cHeap (.cons (.sl cVal) .nil)), (.cons (.own cI) .nil), reach_From⟩
def reach_From_L0 : LoopSum := { hc := ⟨[], [2, 5, 6], [(.tmp 6, cI)], [], [0, 32], [], 112⟩, h := ⟨[(2, (.pvar 0 [])), (5, (.mp 32)), (6, (.row 112))], [(0, (.d cHeap)), (32, (.mapd .bool))], [(112, cI, true)], 113⟩, xid := 0, oc := ⟨[], [5], [], [], [32], [], 112⟩, o := ⟨[(5, (.mp 32))], [(32, (.mapd .bool))], [], 112⟩, rc := ⟨[], [], [], [], [112], [], 112⟩, r := ⟨[], [], [], 112⟩, F := reach_From_l0 }
def reach_From_c : Ctx := ⟨[(128, roots_Refs_sm), (130, object_Get_sm), (155, object_Refs_sm)], [(157, Tryz.f157)], [⟨8, 89, 0, 0, reach_From_L0⟩]⟩
theorem reach_From_sem : SemOf Tryz.prog 89 reach_From_sm := semC (c := reach_From_c) Tryz.func89 (sc roots_Refs_sem (sc object_Get_sem (sc object_Refs_sem an))) (fc (flC Tryz.func157) an) (ec (aeC [true, true, false, true, false, false] reach_From_s0 Tryz.func89) an) 8
def cycle_Tell_r (a0 : Wrld) : Option (Rep × Unit) :=
 (heap_Used (a0.2.1, ())).bind fun y1 =>
 (reach_Black (a0.2.1, ())).bind fun y2 =>
 (reach_Words (a0.2.1, y2.1, ())).bind fun y3 =>
 (snap_Held (a0.2.2.1, ())).bind fun y4 =>
 (reach_From (a0.2.1, y4.1, ())).bind fun y5 =>
 (reach_Words (a0.2.1, y5.1, ())).bind fun y6 =>
 some ((a0.2.2.2.2.2.2.1, wi64 ((a0.2.1.1.length : Int) - y1.1), y3.1, wi64 (y3.1 - y6.1), wi64 (y1.1 - y3.1), ()), ())
def cycle_Tell (x : Wrld × Unit) : Option (Rep × Unit) := cycle_Tell_r x.1
def cycle_Tell_sm : Sum := ⟨(.cons cWrld .nil), (.cons (.cons (.d cI) (.cons (.d cI) (.cons (.d cI) (.cons (.d cI) (.cons (.d cI) .nil))))) .nil), cycle_Tell⟩
def cycle_Tell_c : Ctx := ⟨[(86, heap_Used_sm), (87, reach_Words_sm), (88, reach_Black_sm), (89, reach_From_sm), (90, snap_Held_sm)], [], []⟩
theorem cycle_Tell_sem : SemOf Tryz.prog 29 cycle_Tell_sm := semC (c := cycle_Tell_c) Tryz.func29 (sc heap_Used_sem (sc reach_Words_sem (sc reach_Black_sem (sc reach_From_sem (sc snap_Held_sem an))))) an an 8
def object_with_r (a0 : Heap) (a1 : Int) (a2 : Int) : Option (Heap × Unit) :=
 (slices_Clone_uint64 (a0.1, ())).bind fun y1 =>
 (slices_Clone_api_Span (a0.2.1, ())).bind fun y2 =>
 bif decide (0 ≤ a1) then
  bif decide (a1 < (y1.1.length : Int)) then
   some ((y1.1.set a1.toNat a2, y2.1, a0.2.2), ())
  else none
 else none
def object_with (x : Heap × Int × Int × Unit) : Option (Heap × Unit) := object_with_r x.1 x.2.1 x.2.2.1
def object_with_sm : Sum := ⟨(.cons cHeap (.cons cI (.cons (.int .u64) .nil))), (.cons (.cons (.own (.int .u64)) (.cons (.own cSpan) (.d (.cons .bool .nil)))) .nil), object_with⟩
def object_with_c : Ctx := ⟨[(163, slices_Clone_api_Span_sm), (228, slices_Clone_uint64_sm)], [], []⟩
theorem object_with_sem : SemOf Tryz.prog 185 object_with_sm := semC (c := object_with_c) Tryz.func185 (sc slices_Clone_api_Span_sem (sc slices_Clone_uint64_sem an)) an an 8
def object_Paint_r (a0 : Heap) (a1 : Int) : Option (Heap × Bool × Unit) :=
 (object_Get (a0, a1, ())).bind fun y1 =>
 bif !y1.2.1 then
  some (a0, false, ())
 else
 (header_Put ((y1.1.1, a0.2.2.1, y1.1.2.2.1, y1.1.2.2.2.1, ()), ())).bind fun y2 =>
 (object_with (a0, a1, y2.1, ())).bind fun y3 =>
 some ((y3.1.1, y3.1.2.1, y3.1.2.2), true, ())
def object_Paint (x : Heap × Int × Unit) : Option (Heap × Bool × Unit) := object_Paint_r x.1 x.2.1
def object_Paint_sm : Sum := ⟨(.cons cHeap (.cons cI .nil)), (.cons (.d cHeap) (.cons (.d .bool) .nil)), object_Paint⟩
def object_Paint_c : Ctx := ⟨[(130, object_Get_sm), (185, object_with_sm), (250, header_Put_sm)], [], []⟩
theorem object_Paint_sem : SemOf Tryz.prog 292 object_Paint_sm := semC (c := object_Paint_c) Tryz.func292 (sc object_Get_sem (sc object_with_sem (sc header_Put_sem an))) an an 8
def grey_Push_r (a0 : Grey) (a1 : Int) : Option (Grey × Bool × Unit) :=
 bif decide ((a0.2.1.length : Int) ≥ a0.1) then
  some (a0, false, ())
 else
 bif decide (a1 < 0) then
  some (a0, false, ())
 else
 bif (a0.2.1.length : Int) == (a0.2.1.length : Int) then
  bif decide (0 ≤ (a0.2.1.length : Int)) then
   bif decide ((a0.2.1.length : Int) ≤ (a0.2.1.length : Int)) then
    bif ((a0.2.1.drop 0).take ((a0.2.1.length : Int).toNat - 0)).isEmpty || true then
     bif decide ((((a0.2.1.drop 0).take ((a0.2.1.length : Int).toNat - 0)).length + 1) * 8 ≤ 140737488355328) then
      some ((a0.1, ((a0.2.1.drop 0).take ((a0.2.1.length : Int).toNat - 0)) ++ [a1], a0.2.2), true, ())
     else none
    else none
   else none
  else none
 else none
def grey_Push (x : Grey × Int × Unit) : Option (Grey × Bool × Unit) := grey_Push_r x.1 x.2.1
def grey_Push_sm : Sum := ⟨(.cons cGrey (.cons cI .nil)), (.cons (.d cGrey) (.cons (.d .bool) .nil)), grey_Push⟩
def grey_Push_c : Ctx := ⟨[], [], []⟩
theorem grey_Push_sem : SemOf Tryz.prog 293 grey_Push_sm := semC (c := grey_Push_c) Tryz.func293 an an an 8
def shade_Shade_r (a0 : Heap) (a1 : Grey) (a2 : Val) : Option (Heap × Grey × Bool × Unit) :=
 bif a2.1 != 2 then
  some (a0, a1, false, ())
 else
 (object_Black (a0, a2.2.1, ())).bind fun y1 =>
 bif y1.1 then
  some (a0, a1, false, ())
 else
 (object_Paint (a0, a2.2.1, ())).bind fun y2 =>
 bif !y2.2.1 then
  some (a0, a1, false, ())
 else
 (grey_Push (a1, a2.2.1, ())).bind fun y3 =>
 some (y2.1, y3.1, !y3.2.1, ())
def shade_Shade (x : Heap × Grey × Val × Unit) : Option (Heap × Grey × Bool × Unit) := shade_Shade_r x.1 x.2.1 x.2.2.1
def shade_Shade_sm : Sum := ⟨(.cons cHeap (.cons cGrey (.cons cVal .nil))), (.cons (.d cHeap) (.cons (.d cGrey) (.cons (.d .bool) .nil))), shade_Shade⟩
def shade_Shade_c : Ctx := ⟨[(136, object_Black_sm), (292, object_Paint_sm), (293, grey_Push_sm)], [], []⟩
theorem shade_Shade_sem : SemOf Tryz.prog 239 shade_Shade_sm := semC (c := shade_Shade_c) Tryz.func239 (sc object_Black_sem (sc object_Paint_sem (sc grey_Push_sem an))) an an 8
def grey_Pop_r (a0 : Grey) : Option (Grey × Int × Bool × Unit) :=
 bif (a0.2.1.length : Int) == 0 then
  some (a0, 0, false, ())
 else
 bif decide (0 ≤ (wi64 ((a0.2.1.length : Int) - 1))) then
  bif decide ((wi64 ((a0.2.1.length : Int) - 1)) < (a0.2.1.length : Int)) then
   bif decide (0 ≤ (wi64 ((a0.2.1.length : Int) - 1))) then
    bif decide ((wi64 ((a0.2.1.length : Int) - 1)) ≤ (a0.2.1.length : Int)) then
     (slices_Clone_int ((a0.2.1.drop 0).take ((wi64 ((a0.2.1.length : Int) - 1)).toNat - 0), ())).bind fun y1 =>
     some ((a0.1, y1.1, a0.2.2), a0.2.1.getD (wi64 ((a0.2.1.length : Int) - 1)).toNat 0, true, ())
    else none
   else none
  else none
 else none
def grey_Pop (x : Grey × Unit) : Option (Grey × Int × Bool × Unit) := grey_Pop_r x.1
def grey_Pop_sm : Sum := ⟨(.cons cGrey .nil), (.cons (.d cGrey) (.cons (.d cI) (.cons (.d .bool) .nil))), grey_Pop⟩
def grey_Pop_c : Ctx := ⟨[(333, slices_Clone_int_sm)], [], []⟩
theorem grey_Pop_sem : SemOf Tryz.prog 319 grey_Pop_sm := semC (c := grey_Pop_c) Tryz.func319 (sc slices_Clone_int_sem an) an an 8
def mark_state_barrier_1_r (a0 : Grey) : Option (Bool × Unit) :=
 some (decide ((a0.2.1.length : Int) > 0), ())
def mark_state_barrier_1 (x : Grey × Unit) : Option (Bool × Unit) := mark_state_barrier_1_r x.1
def mark_state_barrier_1_sm : Sum := ⟨(.cons cGrey .nil), (.cons (.d .bool) .nil), mark_state_barrier_1⟩
def mark_state_barrier_1_c : Ctx := ⟨[], [], []⟩
theorem mark_state_barrier_1_sem : SemOf Tryz.prog 321 mark_state_barrier_1_sm := semC (c := mark_state_barrier_1_c) Tryz.func321 an an an 8
abbrev mark_Step_h0 : U := (.cons (.sl cGrey) (.cons cI (.cons cI (.cons cHeap (.cons cMarker (.cons (.cons .bool .nil) (.cons cI (.cons .nil (.cons (.cons cI (.cons cI (.cons cI (.cons .bool .nil)))) (.cons (.cons cMarker (.cons cHeap .nil)) .nil))))))))))
abbrev mark_Step_o0 : U := (.cons cHeap (.cons cMarker (.cons (.cons .bool .nil) (.cons cI (.cons .nil (.cons (.cons cI (.cons cI (.cons cI (.cons .bool .nil)))) (.cons (.cons cMarker (.cons cHeap .nil)) .nil)))))))
abbrev mark_Step_e0 : U := (.cons cI (.cons cHeap (.cons cMarker (.cons (.cons .bool .nil) (.cons cI (.cons .nil (.cons (.cons cI (.cons cI (.cons cI (.cons .bool .nil)))) (.cons (.cons cMarker (.cons cHeap .nil)) .nil))))))))
def mark_Step_s0r (v0 : List Grey) (v7 : Int) (v8 : Int) (c0 : Heap) (c16 : Marker) (c32 : Bool × Unit) (c48_0 : Int) (c48_1 : Unit) (c48_2 : Int × Int × Int × Bool × Unit) (c128 : Marker × Heap × Unit) : Option (SRes mark_Step_h0 mark_Step_o0 mark_Step_e0) :=
 bif decide (v8 < v7) then
  bif decide (0 ≤ v8) then
   bif decide (v8 < (v0.length : Int)) then
    (mark_state_barrier_1 (v0.getD v8.toNat (0, [], ()), ())).bind fun y2 =>
    bif y2.1 then
     some (.fin (.ret (v8, c0, c16, c32, c48_0, c48_1, c48_2, c128, ())))
    else
    some (.next (v0, v7, wi64 (v8 + 1), c0, c16, c32, c48_0, c48_1, c48_2, c128, ()))
   else none
  else none
 else
 some (.fin (.out (c0, c16, c32, c48_0, c48_1, c48_2, c128, ())))
def mark_Step_s0 (x : mark_Step_h0.T) : Option (SRes mark_Step_h0 mark_Step_o0 mark_Step_e0) := mark_Step_s0r x.1 x.2.1 x.2.2.1 x.2.2.2.1 x.2.2.2.2.1 x.2.2.2.2.2.1 x.2.2.2.2.2.2.1 x.2.2.2.2.2.2.2.1 x.2.2.2.2.2.2.2.2.1 x.2.2.2.2.2.2.2.2.2.1
def mark_Step_l0 (x : mark_Step_h0.T) : Option (LRes mark_Step_o0 mark_Step_e0) := iterL mark_Step_s0 9223372036854775808 x
abbrev mark_Step_h1 : U := (.cons cI (.cons cI (.cons cHeap (.cons cMarker (.cons (.cons .bool .nil) (.cons cI (.cons .nil (.cons (.cons cI (.cons cI (.cons cI (.cons .bool .nil)))) (.cons (.cons cMarker (.cons cHeap .nil)) (.cons (.sl cI) .nil))))))))))
abbrev mark_Step_o1 : U := (.cons cHeap (.cons cMarker (.cons (.cons .bool .nil) (.cons cI (.cons .nil (.cons (.cons cI (.cons cI (.cons cI (.cons .bool .nil)))) (.cons (.cons cMarker (.cons cHeap .nil)) .nil)))))))
abbrev mark_Step_e1 : U := (.cons .bool (.cons cHeap (.cons cMarker (.cons (.cons .bool .nil) (.cons cI (.cons .nil (.cons (.cons cI (.cons cI (.cons cI (.cons .bool .nil)))) (.cons (.cons cMarker (.cons cHeap .nil)) .nil))))))))
def mark_Step_s1r (v16 : Int) (v17 : Int) (c0 : Heap) (c16 : Marker) (c32 : Bool × Unit) (c48_0 : Int) (c48_1 : Unit) (c48_2 : Int × Int × Int × Bool × Unit) (c128 : Marker × Heap × Unit) (r1888 : List Int) : Option (SRes mark_Step_h1 mark_Step_o1 mark_Step_e1) :=
 bif decide (v17 < v16) then
  bif decide (0 ≤ v17) then
   bif decide (v17 < (r1888.length : Int)) then
    bif decide ((r1888.getD v17.toNat 0) ≥ c128.1.2.2.2.2.2.1) then
     (object_Black (c128.2.1, r1888.getD v17.toNat 0, ())).bind fun y5 =>
     bif y5.1 then
      (object_Get (c128.2.1, r1888.getD v17.toNat 0, ())).bind fun y6 =>
      bif y6.2.1 then
       bif decide (y6.1.2.2.2.1 > 0) then
        some (.fin (.ret (true, c0, c16, c32, c48_0, c48_1, c48_2, ((c128.1.1, c128.1.2.1, c128.1.2.2.1, r1888.getD v17.toNat 0, 0, wi64 ((r1888.getD v17.toNat 0) + 1), c128.1.2.2.2.2.2.2), c128.2), ())))
       else
       some (.fin (.ret (true, c0, c16, c32, c48_0, c48_1, c48_2, ((c128.1.1, c128.1.2.1, c128.1.2.2.1, c128.1.2.2.2.1, c128.1.2.2.2.2.1, wi64 ((r1888.getD v17.toNat 0) + 1), c128.1.2.2.2.2.2.2), c128.2), ())))
      else
      some (.fin (.ret (true, c0, c16, c32, c48_0, c48_1, c48_2, ((c128.1.1, c128.1.2.1, c128.1.2.2.1, c128.1.2.2.2.1, c128.1.2.2.2.2.1, wi64 ((r1888.getD v17.toNat 0) + 1), c128.1.2.2.2.2.2.2), c128.2), ())))
     else
     some (.next (v16, wi64 (v17 + 1), c0, c16, c32, c48_0, c48_1, c48_2, c128, r1888, ()))
    else
    some (.next (v16, wi64 (v17 + 1), c0, c16, c32, c48_0, c48_1, c48_2, c128, r1888, ()))
   else none
  else none
 else
 some (.fin (.out (c0, c16, c32, c48_0, c48_1, c48_2, c128, ())))
def mark_Step_s1 (x : mark_Step_h1.T) : Option (SRes mark_Step_h1 mark_Step_o1 mark_Step_e1) := mark_Step_s1r x.1 x.2.1 x.2.2.1 x.2.2.2.1 x.2.2.2.2.1 x.2.2.2.2.2.1 x.2.2.2.2.2.2.1 x.2.2.2.2.2.2.2.1 x.2.2.2.2.2.2.2.2.1 x.2.2.2.2.2.2.2.2.2.1
def mark_Step_l1 (x : mark_Step_h1.T) : Option (LRes mark_Step_o1 mark_Step_e1) := iterL mark_Step_s1 9223372036854775808 x
abbrev mark_Step_h2 : U := (.cons cI (.cons cI (.cons cHeap (.cons cMarker (.cons (.cons .bool .nil) (.cons cI (.cons .nil (.cons (.cons cI (.cons cI (.cons cI (.cons .bool .nil)))) (.cons (.cons cMarker (.cons cHeap .nil)) (.cons (.sl cI) .nil))))))))))
abbrev mark_Step_o2 : U := (.cons cHeap (.cons cMarker (.cons (.cons .bool .nil) (.cons cI (.cons .nil (.cons (.cons cI (.cons cI (.cons cI (.cons .bool .nil)))) (.cons (.cons cMarker (.cons cHeap .nil)) .nil)))))))
abbrev mark_Step_e2 : U := (.cons .bool (.cons cHeap (.cons cMarker (.cons (.cons .bool .nil) (.cons cI (.cons .nil (.cons (.cons cI (.cons cI (.cons cI (.cons .bool .nil)))) (.cons (.cons cMarker (.cons cHeap .nil)) .nil))))))))
def mark_Step_s2r (v16 : Int) (v17 : Int) (c0 : Heap) (c16 : Marker) (c32 : Bool × Unit) (c48_0 : Int) (c48_1 : Unit) (c48_2 : Int × Int × Int × Bool × Unit) (c128 : Marker × Heap × Unit) (r1872 : List Int) : Option (SRes mark_Step_h2 mark_Step_o2 mark_Step_e2) :=
 bif decide (v17 < v16) then
  bif decide (0 ≤ v17) then
   bif decide (v17 < (r1872.length : Int)) then
    bif decide ((r1872.getD v17.toNat 0) ≥ c128.1.2.2.2.2.2.1) then
     (object_Black (c128.2.1, r1872.getD v17.toNat 0, ())).bind fun y11 =>
     bif y11.1 then
      (object_Get (c128.2.1, r1872.getD v17.toNat 0, ())).bind fun y12 =>
      bif y12.2.1 then
       bif decide (y12.1.2.2.2.1 > 0) then
        some (.fin (.ret (true, c0, c16, c32, c48_0, c48_1, c48_2, ((c128.1.1, c128.1.2.1, c128.1.2.2.1, r1872.getD v17.toNat 0, 0, wi64 ((r1872.getD v17.toNat 0) + 1), c128.1.2.2.2.2.2.2), c128.2), ())))
       else
       some (.fin (.ret (true, c0, c16, c32, c48_0, c48_1, c48_2, ((c128.1.1, c128.1.2.1, c128.1.2.2.1, c128.1.2.2.2.1, c128.1.2.2.2.2.1, wi64 ((r1872.getD v17.toNat 0) + 1), c128.1.2.2.2.2.2.2), c128.2), ())))
      else
      some (.fin (.ret (true, c0, c16, c32, c48_0, c48_1, c48_2, ((c128.1.1, c128.1.2.1, c128.1.2.2.1, c128.1.2.2.2.1, c128.1.2.2.2.2.1, wi64 ((r1872.getD v17.toNat 0) + 1), c128.1.2.2.2.2.2.2), c128.2), ())))
     else
     some (.next (v16, wi64 (v17 + 1), c0, c16, c32, c48_0, c48_1, c48_2, c128, r1872, ()))
    else
    some (.next (v16, wi64 (v17 + 1), c0, c16, c32, c48_0, c48_1, c48_2, c128, r1872, ()))
   else none
  else none
 else
 some (.fin (.out (c0, c16, c32, c48_0, c48_1, c48_2, c128, ())))
def mark_Step_s2 (x : mark_Step_h2.T) : Option (SRes mark_Step_h2 mark_Step_o2 mark_Step_e2) := mark_Step_s2r x.1 x.2.1 x.2.2.1 x.2.2.2.1 x.2.2.2.2.1 x.2.2.2.2.2.1 x.2.2.2.2.2.2.1 x.2.2.2.2.2.2.2.1 x.2.2.2.2.2.2.2.2.1 x.2.2.2.2.2.2.2.2.2.1
def mark_Step_l2 (x : mark_Step_h2.T) : Option (LRes mark_Step_o2 mark_Step_e2) := iterL mark_Step_s2 9223372036854775808 x
def mark_Step_r (a0 : Heap) (a1 : Marker) : Option (Heap × Marker × Bool × Unit) :=
 bif a1.2.2.2.1 == (-1) then
  (grey_Pop (a1.1, ())).bind fun y1 =>
  bif !y1.2.2.1 then
   (mark_Step_l0 (a1.2.1, (a1.2.1.length : Int), 0, a0, a1, (false, ()), 0, (), (0, 0, 0, false, ()), (a1, a0, ()), ())).bind fun s3 => match s3 with
   | .out s3 =>
    bif (s3.2.2.2.2.2.2.1.1.2.2.1.length : Int) == 0 then
     bif s3.2.2.2.2.2.2.1.1.2.2.2.2.2.1 == (-1) then
      bif !s3.2.2.2.2.2.2.1.1.2.2.2.2.2.2.1 then
       some (s3.1, s3.2.1, true, ())
      else
      some (s3.2.2.2.2.2.2.1.2.1, (s3.2.2.2.2.2.2.1.1.1, s3.2.2.2.2.2.2.1.1.2.1, s3.2.2.2.2.2.2.1.1.2.2.1, s3.2.2.2.2.2.2.1.1.2.2.2.1, s3.2.2.2.2.2.2.1.1.2.2.2.2.1, 0, false, s3.2.2.2.2.2.2.1.1.2.2.2.2.2.2.2), false, ())
     else
     (object_List (s3.2.2.2.2.2.2.1.2.1, ())).bind fun y4 =>
     (mark_Step_l1 ((y4.1.length : Int), 0, s3.1, s3.2.1, s3.2.2.1, s3.2.2.2.1, s3.2.2.2.2.1, s3.2.2.2.2.2.1, s3.2.2.2.2.2.2.1, y4.1, ())).bind fun s7 => match s7 with
     | .out s7 =>
      some (s7.2.2.2.2.2.2.1.2.1, (s7.2.2.2.2.2.2.1.1.1, s7.2.2.2.2.2.2.1.1.2.1, s7.2.2.2.2.2.2.1.1.2.2.1, s7.2.2.2.2.2.2.1.1.2.2.2.1, s7.2.2.2.2.2.2.1.1.2.2.2.2.1, (-1), s7.2.2.2.2.2.2.1.1.2.2.2.2.2.2), false, ())
     | .ret s7 =>
      bif s7.1 then
       some (s7.2.2.2.2.2.2.2.1.2.1, s7.2.2.2.2.2.2.2.1.1, false, ())
      else
      bif !s7.2.2.2.2.2.2.2.1.1.2.2.2.2.2.2.1 then
       some (s7.2.1, s7.2.2.1, true, ())
      else
      some (s7.2.2.2.2.2.2.2.1.2.1, (s7.2.2.2.2.2.2.2.1.1.1, s7.2.2.2.2.2.2.2.1.1.2.1, s7.2.2.2.2.2.2.2.1.1.2.2.1, s7.2.2.2.2.2.2.2.1.1.2.2.2.1, s7.2.2.2.2.2.2.2.1.1.2.2.2.2.1, 0, false, s7.2.2.2.2.2.2.2.1.1.2.2.2.2.2.2.2), false, ())
    else
    bif decide (0 < (s3.2.2.2.2.2.2.1.1.2.2.1.length : Int)) then
     bif decide (1 ≤ (s3.2.2.2.2.2.2.1.1.2.2.1.length : Int)) then
      bif decide ((s3.2.2.2.2.2.2.1.1.2.2.1.length : Int) ≤ (s3.2.2.2.2.2.2.1.1.2.2.1.length : Int)) then
       (slices_Clone_api_Value ((s3.2.2.2.2.2.2.1.1.2.2.1.drop 1).take ((s3.2.2.2.2.2.2.1.1.2.2.1.length : Int).toNat - 1), ())).bind fun y8 =>
       (shade_Shade (s3.2.2.2.2.2.2.1.2.1, s3.2.2.2.2.2.2.1.1.1, s3.2.2.2.2.2.2.1.1.2.2.1.getD 0 (0, 0, ()), ())).bind fun y9 =>
       bif s3.2.2.2.2.2.2.1.1.2.2.2.2.2.2.1 then
        some (y9.1, (y9.2.1, s3.2.2.2.2.2.2.1.1.2.1, y8.1, s3.2.2.2.2.2.2.1.1.2.2.2.1, s3.2.2.2.2.2.2.1.1.2.2.2.2.1, s3.2.2.2.2.2.2.1.1.2.2.2.2.2.1, true, s3.2.2.2.2.2.2.1.1.2.2.2.2.2.2.2), false, ())
       else
       some (y9.1, (y9.2.1, s3.2.2.2.2.2.2.1.1.2.1, y8.1, s3.2.2.2.2.2.2.1.1.2.2.2.1, s3.2.2.2.2.2.2.1.1.2.2.2.2.1, s3.2.2.2.2.2.2.1.1.2.2.2.2.2.1, y9.2.2.1, s3.2.2.2.2.2.2.1.1.2.2.2.2.2.2.2), false, ())
      else none
     else none
    else none
   | .ret s3 =>
    bif decide (s3.1 < 0) then
     bif (s3.2.2.2.2.2.2.2.1.1.2.2.1.length : Int) == 0 then
      bif s3.2.2.2.2.2.2.2.1.1.2.2.2.2.2.1 == (-1) then
       bif !s3.2.2.2.2.2.2.2.1.1.2.2.2.2.2.2.1 then
        some (s3.2.1, s3.2.2.1, true, ())
       else
       some (s3.2.2.2.2.2.2.2.1.2.1, (s3.2.2.2.2.2.2.2.1.1.1, s3.2.2.2.2.2.2.2.1.1.2.1, s3.2.2.2.2.2.2.2.1.1.2.2.1, s3.2.2.2.2.2.2.2.1.1.2.2.2.1, s3.2.2.2.2.2.2.2.1.1.2.2.2.2.1, 0, false, s3.2.2.2.2.2.2.2.1.1.2.2.2.2.2.2.2), false, ())
      else
      (object_List (s3.2.2.2.2.2.2.2.1.2.1, ())).bind fun y10 =>
      (mark_Step_l2 ((y10.1.length : Int), 0, s3.2.1, s3.2.2.1, s3.2.2.2.1, s3.2.2.2.2.1, s3.2.2.2.2.2.1, s3.2.2.2.2.2.2.1, s3.2.2.2.2.2.2.2.1, y10.1, ())).bind fun s13 => match s13 with
      | .out s13 =>
       some (s13.2.2.2.2.2.2.1.2.1, (s13.2.2.2.2.2.2.1.1.1, s13.2.2.2.2.2.2.1.1.2.1, s13.2.2.2.2.2.2.1.1.2.2.1, s13.2.2.2.2.2.2.1.1.2.2.2.1, s13.2.2.2.2.2.2.1.1.2.2.2.2.1, (-1), s13.2.2.2.2.2.2.1.1.2.2.2.2.2.2), false, ())
      | .ret s13 =>
       bif s13.1 then
        some (s13.2.2.2.2.2.2.2.1.2.1, s13.2.2.2.2.2.2.2.1.1, false, ())
       else
       bif !s13.2.2.2.2.2.2.2.1.1.2.2.2.2.2.2.1 then
        some (s13.2.1, s13.2.2.1, true, ())
       else
       some (s13.2.2.2.2.2.2.2.1.2.1, (s13.2.2.2.2.2.2.2.1.1.1, s13.2.2.2.2.2.2.2.1.1.2.1, s13.2.2.2.2.2.2.2.1.1.2.2.1, s13.2.2.2.2.2.2.2.1.1.2.2.2.1, s13.2.2.2.2.2.2.2.1.1.2.2.2.2.1, 0, false, s13.2.2.2.2.2.2.2.1.1.2.2.2.2.2.2.2), false, ())
     else
     bif decide (0 < (s3.2.2.2.2.2.2.2.1.1.2.2.1.length : Int)) then
      bif decide (1 ≤ (s3.2.2.2.2.2.2.2.1.1.2.2.1.length : Int)) then
       bif decide ((s3.2.2.2.2.2.2.2.1.1.2.2.1.length : Int) ≤ (s3.2.2.2.2.2.2.2.1.1.2.2.1.length : Int)) then
        (slices_Clone_api_Value ((s3.2.2.2.2.2.2.2.1.1.2.2.1.drop 1).take ((s3.2.2.2.2.2.2.2.1.1.2.2.1.length : Int).toNat - 1), ())).bind fun y14 =>
        (shade_Shade (s3.2.2.2.2.2.2.2.1.2.1, s3.2.2.2.2.2.2.2.1.1.1, s3.2.2.2.2.2.2.2.1.1.2.2.1.getD 0 (0, 0, ()), ())).bind fun y15 =>
        bif s3.2.2.2.2.2.2.2.1.1.2.2.2.2.2.2.1 then
         some (y15.1, (y15.2.1, s3.2.2.2.2.2.2.2.1.1.2.1, y14.1, s3.2.2.2.2.2.2.2.1.1.2.2.2.1, s3.2.2.2.2.2.2.2.1.1.2.2.2.2.1, s3.2.2.2.2.2.2.2.1.1.2.2.2.2.2.1, true, s3.2.2.2.2.2.2.2.1.1.2.2.2.2.2.2.2), false, ())
        else
        some (y15.1, (y15.2.1, s3.2.2.2.2.2.2.2.1.1.2.1, y14.1, s3.2.2.2.2.2.2.2.1.1.2.2.2.1, s3.2.2.2.2.2.2.2.1.1.2.2.2.2.1, s3.2.2.2.2.2.2.2.1.1.2.2.2.2.2.1, y15.2.2.1, s3.2.2.2.2.2.2.2.1.1.2.2.2.2.2.2.2), false, ())
       else none
      else none
     else none
    else
    bif decide (0 ≤ s3.1) then
     bif decide (s3.1 < (s3.2.2.2.2.2.2.2.1.1.2.1.length : Int)) then
      (grey_Pop (s3.2.2.2.2.2.2.2.1.1.2.1.getD s3.1.toNat (0, [], ()), ())).bind fun y16 =>
      (slices_Clone_api_Grey (s3.2.2.2.2.2.2.2.1.1.2.1, ())).bind fun y17 =>
      bif decide (0 ≤ s3.1) then
       bif decide (s3.1 < (y17.1.length : Int)) then
        (object_Get (s3.2.2.2.2.2.2.2.1.2.1, y16.2.1, ())).bind fun y18 =>
        bif y18.2.1 then
         bif decide (y18.1.2.2.2.1 > 0) then
          some (s3.2.2.2.2.2.2.2.1.2.1, (s3.2.2.2.2.2.2.2.1.1.1, y17.1.set s3.1.toNat y16.1, s3.2.2.2.2.2.2.2.1.1.2.2.1, y16.2.1, 0, s3.2.2.2.2.2.2.2.1.1.2.2.2.2.2), false, ())
         else
         some (s3.2.2.2.2.2.2.2.1.2.1, (s3.2.2.2.2.2.2.2.1.1.1, y17.1.set s3.1.toNat y16.1, s3.2.2.2.2.2.2.2.1.1.2.2), false, ())
        else
        some (s3.2.2.2.2.2.2.2.1.2.1, (s3.2.2.2.2.2.2.2.1.1.1, y17.1.set s3.1.toNat y16.1, s3.2.2.2.2.2.2.2.1.1.2.2), false, ())
       else none
      else none
     else none
    else none
  else
  (object_Get (a0, y1.2.1, ())).bind fun y19 =>
  bif y19.2.1 then
   bif decide (y19.1.2.2.2.1 > 0) then
    some (a0, (y1.1, a1.2.1, a1.2.2.1, y1.2.1, 0, a1.2.2.2.2.2), false, ())
   else
   some (a0, (y1.1, a1.2), false, ())
  else
  some (a0, (y1.1, a1.2), false, ())
 else
 (object_Get (a0, a1.2.2.2.1, ())).bind fun y20 =>
 (object_Field (a0, a1.2.2.2.1, a1.2.2.2.2.1, ())).bind fun y21 =>
 (shade_Shade (a0, a1.1, (y21.1.1, y21.1.2.1, ()), ())).bind fun y22 =>
 bif a1.2.2.2.2.2.2.1 then
  bif decide ((wi64 (a1.2.2.2.2.1 + 1)) ≥ y20.1.2.2.2.1) then
   some (y22.1, (y22.2.1, a1.2.1, a1.2.2.1, (-1), 0, a1.2.2.2.2.2.1, true, a1.2.2.2.2.2.2.2), false, ())
  else
  some (y22.1, (y22.2.1, a1.2.1, a1.2.2.1, a1.2.2.2.1, wi64 (a1.2.2.2.2.1 + 1), a1.2.2.2.2.2.1, true, a1.2.2.2.2.2.2.2), false, ())
 else
 bif decide ((wi64 (a1.2.2.2.2.1 + 1)) ≥ y20.1.2.2.2.1) then
  some (y22.1, (y22.2.1, a1.2.1, a1.2.2.1, (-1), 0, a1.2.2.2.2.2.1, y22.2.2.1, a1.2.2.2.2.2.2.2), false, ())
 else
 some (y22.1, (y22.2.1, a1.2.1, a1.2.2.1, a1.2.2.2.1, wi64 (a1.2.2.2.2.1 + 1), a1.2.2.2.2.2.1, y22.2.2.1, a1.2.2.2.2.2.2.2), false, ())
def mark_Step (x : Heap × Marker × Unit) : Option (Heap × Marker × Bool × Unit) := mark_Step_r x.1 x.2.1
def mark_Step_sm : Sum := ⟨(.cons cHeap (.cons cMarker .nil)), (.cons (.d cHeap) (.cons (.d cMarker) (.cons (.d .bool) .nil))), mark_Step⟩
def mark_Step_L0 : LoopSum := { hc := ⟨[], [0, 1, 7, 8], [], [], [0, 16, 32, 48, 128], [], 1216⟩, h := ⟨[(0, (.d (.sl cGrey))), (1, (.fn 321 .nil .nil)), (7, (.d cI)), (8, (.d cI))], [(0, (.d cHeap)), (16, (.d cMarker)), (32, (.cons .nilsl (.cons .nilsl (.d (.cons .bool .nil))))), (48, (.cons (.cons (.d cI) (.cons .nilsl (.d .nil))) (.cons .nilsl (.cons .nilsl (.d (.cons cI (.cons cI (.cons cI (.cons .bool .nil))))))))), (128, (.d (.cons cMarker (.cons cHeap .nil))))], [], 1216⟩, xid := 0, oc := ⟨[], [], [], [], [0, 16, 32, 48, 128], [], 1216⟩, o := ⟨[], [(0, (.d cHeap)), (16, (.d cMarker)), (32, (.cons .nilsl (.cons .nilsl (.d (.cons .bool .nil))))), (48, (.cons (.cons (.d cI) (.cons .nilsl (.d .nil))) (.cons .nilsl (.cons .nilsl (.d (.cons cI (.cons cI (.cons cI (.cons .bool .nil))))))))), (128, (.d (.cons cMarker (.cons cHeap .nil))))], [], 1216⟩, rc := ⟨[], [4], [], [], [0, 16, 32, 48, 128], [], 1216⟩, r := ⟨[(4, (.d cI))], [(0, (.d cHeap)), (16, (.d cMarker)), (32, (.cons .nilsl (.cons .nilsl (.d (.cons .bool .nil))))), (48, (.cons (.cons (.d cI) (.cons .nilsl (.d .nil))) (.cons .nilsl (.cons .nilsl (.d (.cons cI (.cons cI (.cons cI (.cons .bool .nil))))))))), (128, (.d (.cons cMarker (.cons cHeap .nil))))], [], 1216⟩, F := mark_Step_l0 }
def mark_Step_L1 : LoopSum := { hc := ⟨[], [0, 15, 16, 17], [], [], [0, 16, 32, 48, 128], [1888], 1936⟩, h := ⟨[(0, (.pvar 128 [])), (15, (.row 1888)), (16, (.d cI)), (17, (.d cI))], [(0, (.d cHeap)), (16, (.d cMarker)), (32, (.cons .nilsl (.cons .nilsl (.d (.cons .bool .nil))))), (48, (.cons (.cons (.d cI) (.cons .nilsl (.d .nil))) (.cons .nilsl (.cons .nilsl (.d (.cons cI (.cons cI (.cons cI (.cons .bool .nil))))))))), (128, (.d (.cons cMarker (.cons cHeap .nil))))], [(1888, cI, true)], 1936⟩, xid := 0, oc := ⟨[], [0], [], [], [0, 16, 32, 48, 128], [], 1936⟩, o := ⟨[(0, (.pvar 128 []))], [(0, (.d cHeap)), (16, (.d cMarker)), (32, (.cons .nilsl (.cons .nilsl (.d (.cons .bool .nil))))), (48, (.cons (.cons (.d cI) (.cons .nilsl (.d .nil))) (.cons .nilsl (.cons .nilsl (.d (.cons cI (.cons cI (.cons cI (.cons .bool .nil))))))))), (128, (.d (.cons cMarker (.cons cHeap .nil))))], [], 1936⟩, rc := ⟨[], [2], [], [], [0, 16, 32, 48, 128], [], 1936⟩, r := ⟨[(2, (.d .bool))], [(0, (.d cHeap)), (16, (.d cMarker)), (32, (.cons .nilsl (.cons .nilsl (.d (.cons .bool .nil))))), (48, (.cons (.cons (.d cI) (.cons .nilsl (.d .nil))) (.cons .nilsl (.cons .nilsl (.d (.cons cI (.cons cI (.cons cI (.cons .bool .nil))))))))), (128, (.d (.cons cMarker (.cons cHeap .nil))))], [], 1936⟩, F := mark_Step_l1 }
def mark_Step_L2 : LoopSum := { hc := ⟨[], [0, 15, 16, 17], [], [], [0, 16, 32, 48, 128], [1872], 1920⟩, h := ⟨[(0, (.pvar 128 [])), (15, (.row 1872)), (16, (.d cI)), (17, (.d cI))], [(0, (.d cHeap)), (16, (.d cMarker)), (32, (.cons .nilsl (.cons .nilsl (.d (.cons .bool .nil))))), (48, (.cons (.cons (.d cI) (.cons .nilsl (.d .nil))) (.cons .nilsl (.cons .nilsl (.d (.cons cI (.cons cI (.cons cI (.cons .bool .nil))))))))), (128, (.d (.cons cMarker (.cons cHeap .nil))))], [(1872, cI, true)], 1920⟩, xid := 0, oc := ⟨[], [0], [], [], [0, 16, 32, 48, 128], [], 1920⟩, o := ⟨[(0, (.pvar 128 []))], [(0, (.d cHeap)), (16, (.d cMarker)), (32, (.cons .nilsl (.cons .nilsl (.d (.cons .bool .nil))))), (48, (.cons (.cons (.d cI) (.cons .nilsl (.d .nil))) (.cons .nilsl (.cons .nilsl (.d (.cons cI (.cons cI (.cons cI (.cons .bool .nil))))))))), (128, (.d (.cons cMarker (.cons cHeap .nil))))], [], 1920⟩, rc := ⟨[], [2], [], [], [0, 16, 32, 48, 128], [], 1920⟩, r := ⟨[(2, (.d .bool))], [(0, (.d cHeap)), (16, (.d cMarker)), (32, (.cons .nilsl (.cons .nilsl (.d (.cons .bool .nil))))), (48, (.cons (.cons (.d cI) (.cons .nilsl (.d .nil))) (.cons .nilsl (.cons .nilsl (.d (.cons cI (.cons cI (.cons cI (.cons .bool .nil))))))))), (128, (.d (.cons cMarker (.cons cHeap .nil))))], [], 1920⟩, F := mark_Step_l2 }
def mark_Step_c : Ctx := ⟨[(130, object_Get_sm), (132, object_List_sm), (136, object_Black_sm), (174, slices_Clone_api_Value_sm), (176, object_Field_sm), (206, slices_Clone_api_Grey_sm), (239, shade_Shade_sm), (319, grey_Pop_sm), (321, mark_state_barrier_1_sm)], [(270, Tryz.f270), (276, Tryz.f276), (277, Tryz.f277), (278, Tryz.f278), (279, Tryz.f279), (280, Tryz.f280), (281, Tryz.f281), (318, Tryz.f318), (320, Tryz.f320)], [⟨6, 270, 1152, 0, mark_Step_L0⟩, ⟨7, 280, 1712, 0, mark_Step_L1⟩, ⟨7, 280, 1696, 0, mark_Step_L2⟩]⟩
theorem mark_Step_sem : SemOf Tryz.prog 217 mark_Step_sm := semC (c := mark_Step_c) Tryz.func217 (sc object_Get_sem (sc object_List_sem (sc object_Black_sem (sc slices_Clone_api_Value_sem (sc object_Field_sem (sc slices_Clone_api_Grey_sem (sc shade_Shade_sem (sc grey_Pop_sem (sc mark_state_barrier_1_sem an))))))))) (fc (flC Tryz.func270) (fc (flC Tryz.func276) (fc (flC Tryz.func277) (fc (flC Tryz.func278) (fc (flC Tryz.func279) (fc (flC Tryz.func280) (fc (flC Tryz.func281) (fc (flC Tryz.func318) (fc (flC Tryz.func320) an))))))))) (ec (aeC [true, false, true, false, false] mark_Step_s0 Tryz.func270) (ec (aeC [true, true, false, true, false, false] mark_Step_s1 Tryz.func280) (ec (aeC [true, true, false, true, false, false] mark_Step_s2 Tryz.func280) an))) 8
end
end Go.Proofs.YtkjpakaidjpjgaaGreatDoor.Den
