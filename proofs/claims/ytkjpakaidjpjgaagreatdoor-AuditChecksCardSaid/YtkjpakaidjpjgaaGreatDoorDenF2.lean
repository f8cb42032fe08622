/- What functions come to. Printed by a program of this session. -/
import Derived.Test.YtkjpakaidjpjgaaGreatDoorDenF1
namespace Go.Proofs.YtkjpakaidjpjgaaGreatDoor.Den
open Go
set_option maxRecDepth 100000
set_option linter.unusedVariables false
noncomputable section
def sound_Check_r (a0 : Heap) : Option (Int × Unit) :=
 (sound_whole_formed ((a0, ()), ())).bind fun y1 =>
 bif !y1.1 then
  some (1, ())
 else
 (sound_whole_filled ((a0, ()), ())).bind fun y2 =>
 bif !y2.1 then
  some (2, ())
 else
 (sound_whole_behind ((a0, ()), ())).bind fun y3 =>
 bif !y3.1 then
  some (3, ())
 else
 (sound_whole_referred ((a0, ()), ())).bind fun y4 =>
 bif !y4.1 then
  some (4, ())
 else
 some (0, ())
def sound_Check (x : Heap × Unit) : Option (Int × Unit) := sound_Check_r x.1
def sound_Check_sm : Sum := ⟨(.cons cHeap .nil), (.cons (.d cI) .nil), sound_Check⟩
def sound_Check_c : Ctx := ⟨[(260, sound_whole_formed_sm), (261, sound_whole_filled_sm), (262, sound_whole_behind_sm), (263, sound_whole_referred_sm)], [], []⟩
theorem sound_Check_sem : SemOf Tryz.prog 198 sound_Check_sm := semC (c := sound_Check_c) Tryz.func198 (sc sound_whole_formed_sem (sc sound_whole_filled_sem (sc sound_whole_behind_sem (sc sound_whole_referred_sem an)))) an an 8
def sound_Ok_r (a0 : Heap) : Option (Bool × Unit) :=
 (sound_Check (a0, ())).bind fun y1 =>
 some (y1.1 == 0, ())
def sound_Ok (x : Heap × Unit) : Option (Bool × Unit) := sound_Ok_r x.1
def sound_Ok_sm : Sum := ⟨(.cons cHeap .nil), (.cons (.d .bool) .nil), sound_Ok⟩
def sound_Ok_c : Ctx := ⟨[(198, sound_Check_sm)], [], []⟩
theorem sound_Ok_sem : SemOf Tryz.prog 123 sound_Ok_sm := semC (c := sound_Ok_c) Tryz.func123 (sc sound_Check_sem an) an an 8
def world_ready_r (a0 : Mut) (a1 : Int) : Option (Bool × Unit) :=
 bif a0.2.1 == 0 then
  some (true, ())
 else
 bif a0.2.1 == 4 then
  some (true, ())
 else
 bif a0.2.1 == 1 then
  bif !(decide ((a0.1.length : Int) ≥ a1)) then
   bif decide (a0.2.2.1.2.1 ≥ 0) then
    some (decide (a0.2.2.1.2.1 ≤ 15), ())
   else
   some (false, ())
  else
  some (false, ())
 else
 bif a0.2.1 == 2 then
  some (!(decide ((a0.1.length : Int) ≥ a1)), ())
 else
 bif a0.2.1 == 3 then
  some (!(decide ((a0.1.length : Int) ≥ a1)), ())
 else
 some (false, ())
def world_ready (x : Mut × Int × Unit) : Option (Bool × Unit) := world_ready_r x.1 x.2.1
def world_ready_sm : Sum := ⟨(.cons cMut (.cons cI .nil)), (.cons (.d .bool) .nil), world_ready⟩
def world_ready_c : Ctx := ⟨[], [], []⟩
theorem world_ready_sem : SemOf Tryz.prog 126 world_ready_sm := semC (c := world_ready_c) Tryz.func126 an an an 8
abbrev world_Whole_h0 : U := (.cons (.sl cMut) (.cons cI (.cons cI (.cons cWrld .nil))))
abbrev world_Whole_o0 : U := .nil
abbrev world_Whole_e0 : U := (.cons cI .nil)
def world_Whole_s0r (v0 : List Mut) (v7 : Int) (v8 : Int) (c0 : Wrld) : Option (SRes world_Whole_h0 world_Whole_o0 world_Whole_e0) :=
 bif decide (v8 < v7) then
  bif decide (0 ≤ v8) then
   bif decide (v8 < (v0.length : Int)) then
    (world_ready (v0.getD v8.toNat ([], 0, (0, 0, 0, 0, ()), 0, (0, 0, ()), List.replicate 4 0, ()), c0.1.2.2.1, ())).bind fun y3 =>
    bif !y3.1 then
     some (.fin (.ret (v8, ())))
    else
    some (.next (v0, v7, wi64 (v8 + 1), c0, ()))
   else none
  else none
 else
 some (.fin (.out ()))
def world_Whole_s0 (x : world_Whole_h0.T) : Option (SRes world_Whole_h0 world_Whole_o0 world_Whole_e0) := world_Whole_s0r x.1 x.2.1 x.2.2.1 x.2.2.2.1
def world_Whole_l0 (x : world_Whole_h0.T) : Option (LRes world_Whole_o0 world_Whole_e0) := iterL world_Whole_s0 9223372036854775808 x
def world_Whole_r (a0 : Wrld) : Option (Bool × Unit) :=
 (cycle_Form (a0, ())).bind fun y1 =>
 bif y1.1 then
  (sound_Ok (a0.2.1, ())).bind fun y2 =>
  bif y2.1 then
   (world_Whole_l0 (a0.2.2.1, (a0.2.2.1.length : Int), 0, a0, ())).bind fun s4 => match s4 with
   | .out s4 =>
    some (true, ())
   | .ret s4 =>
    some (!(decide (s4.1 ≥ 0)), ())
  else
  some (false, ())
 else
 some (false, ())
def world_Whole (x : Wrld × Unit) : Option (Bool × Unit) := world_Whole_r x.1
def world_Whole_sm : Sum := ⟨(.cons cWrld .nil), (.cons (.d .bool) .nil), world_Whole⟩
def world_Whole_L0 : LoopSum := { hc := ⟨[], [0, 1, 7, 8], [], [], [0], [], 432⟩, h := ⟨[(0, (.d (.sl cMut))), (1, (.fn 125 .nil (.cons (.pvar 0 []) .nil))), (7, (.d cI)), (8, (.d cI))], [(0, (.d cWrld))], [], 432⟩, xid := 0, oc := ⟨[], [], [], [], [], [], 432⟩, o := ⟨[], [], [], 432⟩, rc := ⟨[], [4], [], [], [], [], 432⟩, r := ⟨[(4, (.d cI))], [], [], 432⟩, F := world_Whole_l0 }
def world_Whole_c : Ctx := ⟨[(73, cycle_Form_sm), (123, sound_Ok_sm), (126, world_ready_sm)], [(124, Tryz.f124), (125, Tryz.f125), (199, Tryz.f199)], [⟨6, 199, 368, 0, world_Whole_L0⟩]⟩
theorem world_Whole_sem : SemOf Tryz.prog 58 world_Whole_sm := semC (c := world_Whole_c) Tryz.func58 (sc cycle_Form_sem (sc sound_Ok_sem (sc world_ready_sem an))) (fc (flC Tryz.func124) (fc (flC Tryz.func125) (fc (flC Tryz.func199) an))) (ec (aeC [true, false, true, false, false] world_Whole_s0 Tryz.func199) an) 8
def snap_list_r (a0 : List Val) : Option ((List Val) × Unit) :=
 some (a0, ())
def snap_list (x : (List Val) × Unit) : Option ((List Val) × Unit) := snap_list_r x.1
def snap_list_sm : Sum := ⟨(.cons (.sl cVal) .nil), (.cons (.d (.sl cVal)) .nil), snap_list⟩
def snap_list_c : Ctx := ⟨[], [], []⟩
theorem snap_list_sem : SemOf Tryz.prog 227 snap_list_sm := semC (c := snap_list_c) Tryz.func227 an an an 8
def snap_Registers_r (a0 : Mut) : Option ((List Val) × Unit) :=
 bif a0.2.1 == 2 then
  (snap_list ([(2, a0.2.2.2.1, ())], ())).bind fun y1 =>
  some (y1.1, ())
 else
 bif a0.2.1 == 3 then
  (snap_list ([a0.2.2.2.2.1], ())).bind fun y2 =>
  some (y2.1, ())
 else
 bif a0.2.1 == 4 then
  (snap_list ([(2, a0.2.2.2.1, ()), a0.2.2.2.2.1], ())).bind fun y3 =>
  some (y3.1, ())
 else
 some ([], ())
def snap_Registers (x : Mut × Unit) : Option ((List Val) × Unit) := snap_Registers_r x.1
def snap_Registers_sm : Sum := ⟨(.cons cMut .nil), (.cons (.d (.sl cVal)) .nil), snap_Registers⟩
def snap_Registers_c : Ctx := ⟨[(227, snap_list_sm)], [], []⟩
theorem snap_Registers_sem : SemOf Tryz.prog 158 snap_Registers_sm := semC (c := snap_Registers_c) Tryz.func158 (sc snap_list_sem an) an an 8
abbrev snap_Held_h0 : U := (.cons (.sl cMut) (.cons cI (.cons cI (.cons (.sl cVal) .nil))))
abbrev snap_Held_o0 : U := (.cons (.sl cVal) .nil)
abbrev snap_Held_e0 : U := .nil
def snap_Held_s0r (v6 : List Mut) (v7 : Int) (v8 : Int) (r80 : List Val) : Option (SRes snap_Held_h0 snap_Held_o0 snap_Held_e0) :=
 bif decide (v8 < v7) then
  bif decide (0 ≤ v8) then
   bif decide (v8 < (v6.length : Int)) then
    bif decide ((r80.length + (v6.getD v8.toNat ([], 0, (0, 0, 0, 0, ()), 0, (0, 0, ()), List.replicate 4 0, ())).1.length) * 16 ≤ 140737488355328) then
     (snap_Registers (v6.getD v8.toNat ([], 0, (0, 0, 0, 0, ()), 0, (0, 0, ()), List.replicate 4 0, ()), ())).bind fun y1 =>
     bif decide (((r80 ++ (v6.getD v8.toNat ([], 0, (0, 0, 0, 0, ()), 0, (0, 0, ()), List.replicate 4 0, ())).1).length + y1.1.length) * 16 ≤ 140737488355328) then
      some (.next (v6, v7, wi64 (v8 + 1), (r80 ++ (v6.getD v8.toNat ([], 0, (0, 0, 0, 0, ()), 0, (0, 0, ()), List.replicate 4 0, ())).1) ++ y1.1, ()))
     else none
    else none
   else none
  else none
 else
 some (.fin (.out (r80, ())))
def snap_Held_s0 (x : snap_Held_h0.T) : Option (SRes snap_Held_h0 snap_Held_o0 snap_Held_e0) := snap_Held_s0r x.1 x.2.1 x.2.2.1 x.2.2.2.1
def snap_Held_l0 (x : snap_Held_h0.T) : Option (LRes snap_Held_o0 snap_Held_e0) := iterL snap_Held_s0 9223372036854775808 x
def snap_Held_r (a0 : List Mut) : Option ((List Val) × Unit) :=
 (snap_Held_l0 (a0, (a0.length : Int), 0, [], ())).bind fun s2 => match s2 with
 | .out s2 =>
  some (s2.1, ())
 | .ret s2 =>
  none
def snap_Held (x : (List Mut) × Unit) : Option ((List Val) × Unit) := snap_Held_r x.1
def snap_Held_sm : Sum := ⟨(.cons (.sl cMut) .nil), (.cons (.own cVal) .nil), snap_Held⟩
def snap_Held_L0 : LoopSum := { hc := ⟨[], [3, 6, 7, 8], [(.tmp 3, cVal)], [], [], [], 80⟩, h := ⟨[(3, (.row 80)), (6, (.d (.sl cMut))), (7, (.d cI)), (8, (.d cI))], [], [(80, cVal, true)], 81⟩, xid := 0, oc := ⟨[], [3], [(.tmp 3, cVal)], [], [], [], 80⟩, o := ⟨[(3, (.row 80))], [], [(80, cVal, true)], 81⟩, rc := ⟨[], [], [], [], [80], [], 80⟩, r := ⟨[], [], [], 80⟩, F := snap_Held_l0 }
def snap_Held_c : Ctx := ⟨[(158, snap_Registers_sm)], [], [⟨8, 90, 0, 0, snap_Held_L0⟩]⟩
theorem snap_Held_sem : SemOf Tryz.prog 90 snap_Held_sm := semC (c := snap_Held_c) Tryz.func90 (sc snap_Registers_sem an) an (ec (aeC [true, true, false, true, false, false] snap_Held_s0 Tryz.func90) an) 8
abbrev roots_Refs_h0 : U := (.cons (.sl cVal) (.cons cI cGrey))
abbrev roots_Refs_o0 : U := (.cons (.sl cI) .nil)
abbrev roots_Refs_e0 : U := .nil
def roots_Refs_s0r (v6 : List Val) (v7 : Int) (v8 : Int) (r80 : List Int) : Option (SRes roots_Refs_h0 roots_Refs_o0 roots_Refs_e0) :=
 bif decide (v8 < v7) then
  bif decide (0 ≤ v8) then
   bif decide (v8 < (v6.length : Int)) then
    bif (v6.getD v8.toNat (0, 0, ())).1 == 2 then
     bif decide ((r80.length + 1) * 8 ≤ 140737488355328) then
      some (.next (v6, v7, wi64 (v8 + 1), r80 ++ [(v6.getD v8.toNat (0, 0, ())).2.1], ()))
     else none
    else
    some (.next (v6, v7, wi64 (v8 + 1), r80, ()))
   else none
  else none
 else
 some (.fin (.out (r80, ())))
def roots_Refs_s0 (x : roots_Refs_h0.T) : Option (SRes roots_Refs_h0 roots_Refs_o0 roots_Refs_e0) := roots_Refs_s0r x.1 x.2.1 x.2.2.1 x.2.2.2.1
def roots_Refs_l0 (x : roots_Refs_h0.T) : Option (LRes roots_Refs_o0 roots_Refs_e0) := iterL roots_Refs_s0 9223372036854775808 x
def roots_Refs_r (a0 : List Val) : Option ((List Int) × Unit) :=
 (roots_Refs_l0 (a0, (a0.length : Int), 0, [], ())).bind fun s1 => match s1 with
 | .out s1 =>
  some (s1.1, ())
 | .ret s1 =>
  none
def roots_Refs (x : (List Val) × Unit) : Option ((List Int) × Unit) := roots_Refs_r x.1
def roots_Refs_sm : Sum := ⟨(.cons (.sl cVal) .nil), (.cons (.own cI) .nil), roots_Refs⟩
def roots_Refs_L0 : LoopSum := { hc := ⟨[], [3, 6, 7, 8], [(.tmp 3, cI)], [], [], [], 80⟩, h := ⟨[(3, (.row 80)), (6, (.d (.sl cVal))), (7, (.d cI)), (8, (.d cI))], [], [(80, cI, true)], 81⟩, xid := 0, oc := ⟨[], [3], [(.tmp 3, cI)], [], [], [], 80⟩, o := ⟨[(3, (.row 80))], [], [(80, cI, true)], 81⟩, rc := ⟨[], [], [], [], [80], [], 80⟩, r := ⟨[], [], [], 80⟩, F := roots_Refs_l0 }
def roots_Refs_c : Ctx := ⟨[], [], [⟨8, 128, 0, 0, roots_Refs_L0⟩]⟩
theorem roots_Refs_sem : SemOf Tryz.prog 128 roots_Refs_sm := semC (c := roots_Refs_c) Tryz.func128 an an (ec (aeC [true, true, false, true, false, false] roots_Refs_s0 Tryz.func128) an) 8
abbrev audit_objects_h0 : U := (.cons cI (.cons cI (.cons cWrld (.cons (.sl cI) .nil))))
abbrev audit_objects_o0 : U := .nil
abbrev audit_objects_e0 : U := (.cons cI .nil)
def audit_objects_s0r (v7 : Int) (v8 : Int) (c0 : Wrld) (r80 : List Int) : Option (SRes audit_objects_h0 audit_objects_o0 audit_objects_e0) :=
 bif decide (v8 < v7) then
  bif decide (0 ≤ v8) then
   bif decide (v8 < (r80.length : Int)) then
    (object_Get (c0.2.1, r80.getD v8.toNat 0, ())).bind fun y3 =>
    bif !y3.2.1 then
     some (.fin (.ret (v8, ())))
    else
    some (.next (v7, wi64 (v8 + 1), c0, r80, ()))
   else none
  else none
 else
 some (.fin (.out ()))
def audit_objects_s0 (x : audit_objects_h0.T) : Option (SRes audit_objects_h0 audit_objects_o0 audit_objects_e0) := audit_objects_s0r x.1 x.2.1 x.2.2.1 x.2.2.2.1
def audit_objects_l0 (x : audit_objects_h0.T) : Option (LRes audit_objects_o0 audit_objects_e0) := iterL audit_objects_s0 9223372036854775808 x
def audit_objects_r (a0 : Wrld) : Option (Bool × Unit) :=
 (snap_Held (a0.2.2.1, ())).bind fun y1 =>
 (roots_Refs (y1.1, ())).bind fun y2 =>
 (audit_objects_l0 ((y2.1.length : Int), 0, a0, y2.1, ())).bind fun s4 => match s4 with
 | .out s4 =>
  some (true, ())
 | .ret s4 =>
  some (!(decide (s4.1 ≥ 0)), ())
def audit_objects (x : Wrld × Unit) : Option (Bool × Unit) := audit_objects_r x.1
def audit_objects_sm : Sum := ⟨(.cons cWrld .nil), (.cons (.d .bool) .nil), audit_objects⟩
def audit_objects_L0 : LoopSum := { hc := ⟨[], [0, 1, 7, 8], [], [], [0], [80], 320⟩, h := ⟨[(0, (.row 80)), (1, (.fn 129 .nil (.cons (.pvar 0 []) .nil))), (7, (.d cI)), (8, (.d cI))], [(0, (.d cWrld))], [(80, cI, true)], 320⟩, xid := 0, oc := ⟨[], [], [], [], [], [], 320⟩, o := ⟨[], [], [], 320⟩, rc := ⟨[], [4], [], [], [], [], 320⟩, r := ⟨[(4, (.d cI))], [], [], 320⟩, F := audit_objects_l0 }
def audit_objects_c : Ctx := ⟨[(90, snap_Held_sm), (128, roots_Refs_sm), (130, object_Get_sm)], [(127, Tryz.f127), (129, Tryz.f129), (200, Tryz.f200)], [⟨6, 200, 256, 0, audit_objects_L0⟩]⟩
theorem audit_objects_sem : SemOf Tryz.prog 59 audit_objects_sm := semC (c := audit_objects_c) Tryz.func59 (sc snap_Held_sem (sc roots_Refs_sem (sc object_Get_sem an))) (fc (flC Tryz.func127) (fc (flC Tryz.func129) (fc (flC Tryz.func200) an))) (ec (aeC [true, false, true, false, false] audit_objects_s0 Tryz.func200) an) 8
def sweep_dirty_r (a0 : Span) : Option (Bool × Unit) :=
 some (a0.1 == 2, ())
def sweep_dirty (x : Span × Unit) : Option (Bool × Unit) := sweep_dirty_r x.1
def sweep_dirty_sm : Sum := ⟨(.cons cSpan .nil), (.cons (.d .bool) .nil), sweep_dirty⟩
def sweep_dirty_c : Ctx := ⟨[], [], []⟩
theorem sweep_dirty_sem : SemOf Tryz.prog 161 sweep_dirty_sm := semC (c := sweep_dirty_c) Tryz.func161 an an an 8
abbrev sweep_Dirty_h0 : U := (.cons cI (.cons (.sl cSpan) cVal))
abbrev sweep_Dirty_o0 : U := (.cons cI .nil)
abbrev sweep_Dirty_e0 : U := .nil
def sweep_Dirty_s0r (v3 : Int) (v7 : List Span) (v8 : Int) (v9 : Int) : Option (SRes sweep_Dirty_h0 sweep_Dirty_o0 sweep_Dirty_e0) :=
 bif decide (v9 < v8) then
  bif decide (0 ≤ v9) then
   bif decide (v9 < (v7.length : Int)) then
    (sweep_dirty (v7.getD v9.toNat (0, 0, 0, ()), ())).bind fun y1 =>
    bif y1.1 then
     some (.next (wi64 (v3 + 1), v7, v8, wi64 (v9 + 1), ()))
    else
    some (.next (v3, v7, v8, wi64 (v9 + 1), ()))
   else none
  else none
 else
 some (.fin (.out (v3, ())))
def sweep_Dirty_s0 (x : sweep_Dirty_h0.T) : Option (SRes sweep_Dirty_h0 sweep_Dirty_o0 sweep_Dirty_e0) := sweep_Dirty_s0r x.1 x.2.1 x.2.2.1 x.2.2.2.1
def sweep_Dirty_l0 (x : sweep_Dirty_h0.T) : Option (LRes sweep_Dirty_o0 sweep_Dirty_e0) := iterL sweep_Dirty_s0 9223372036854775808 x
def sweep_Dirty_r (a0 : Heap) : Option (Int × Unit) :=
 (sweep_Dirty_l0 (0, a0.2.1, (a0.2.1.length : Int), 0, ())).bind fun s2 => match s2 with
 | .out s2 =>
  some (s2.1, ())
 | .ret s2 =>
  none
def sweep_Dirty (x : Heap × Unit) : Option (Int × Unit) := sweep_Dirty_r x.1
def sweep_Dirty_sm : Sum := ⟨(.cons cHeap .nil), (.cons (.d cI) .nil), sweep_Dirty⟩
def sweep_Dirty_L0 : LoopSum := { hc := ⟨[], [3, 7, 8, 9], [], [], [], [], 112⟩, h := ⟨[(3, (.d cI)), (7, (.d (.sl cSpan))), (8, (.d cI)), (9, (.d cI))], [], [], 112⟩, xid := 0, oc := ⟨[], [3], [], [], [], [], 112⟩, o := ⟨[(3, (.d cI))], [], [], 112⟩, rc := ⟨[], [], [], [], [112], [], 112⟩, r := ⟨[], [], [], 112⟩, F := sweep_Dirty_l0 }
def sweep_Dirty_c : Ctx := ⟨[(161, sweep_dirty_sm)], [], [⟨8, 93, 0, 0, sweep_Dirty_L0⟩]⟩
theorem sweep_Dirty_sem : SemOf Tryz.prog 93 sweep_Dirty_sm := semC (c := sweep_Dirty_c) Tryz.func93 (sc sweep_dirty_sem an) an (ec (aeC [true, true, false, true, false, false] sweep_Dirty_s0 Tryz.func93) an) 8
abbrev audit_black_h0 : U := (.cons (.sl cI) (.cons cI (.cons cI (.cons cWrld .nil))))
abbrev audit_black_o0 : U := .nil
abbrev audit_black_e0 : U := (.cons cI .nil)
def audit_black_s0r (v0 : List Int) (v7 : Int) (v8 : Int) (c0 : Wrld) : Option (SRes audit_black_h0 audit_black_o0 audit_black_e0) :=
 bif decide (v8 < v7) then
  bif decide (0 ≤ v8) then
   bif decide (v8 < (v0.length : Int)) then
    (object_Black (c0.2.1, v0.getD v8.toNat 0, ())).bind fun y1 =>
    bif !y1.1 then
     some (.fin (.ret (v8, ())))
    else
    some (.next (v0, v7, wi64 (v8 + 1), c0, ()))
   else none
  else none
 else
 some (.fin (.out ()))
def audit_black_s0 (x : audit_black_h0.T) : Option (SRes audit_black_h0 audit_black_o0 audit_black_e0) := audit_black_s0r x.1 x.2.1 x.2.2.1 x.2.2.2.1
def audit_black_l0 (x : audit_black_h0.T) : Option (LRes audit_black_o0 audit_black_e0) := iterL audit_black_s0 9223372036854775808 x
def audit_black_r (a0 : Wrld) (a1 : List Int) : Option (Bool × Unit) :=
 (audit_black_l0 (a1, (a1.length : Int), 0, a0, ())).bind fun s2 => match s2 with
 | .out s2 =>
  some (true, ())
 | .ret s2 =>
  some (!(decide (s2.1 ≥ 0)), ())
def audit_black (x : Wrld × (List Int) × Unit) : Option (Bool × Unit) := audit_black_r x.1 x.2.1
def audit_black_sm : Sum := ⟨(.cons cWrld (.cons (.sl cI) .nil)), (.cons (.d .bool) .nil), audit_black⟩
def audit_black_L0 : LoopSum := { hc := ⟨[], [0, 1, 7, 8], [], [], [0], [], 272⟩, h := ⟨[(0, (.d (.sl cI))), (1, (.fn 203 .nil (.cons (.pvar 0 []) .nil))), (7, (.d cI)), (8, (.d cI))], [(0, (.d cWrld))], [], 272⟩, xid := 0, oc := ⟨[], [], [], [], [], [], 272⟩, o := ⟨[], [], [], 272⟩, rc := ⟨[], [4], [], [], [], [], 272⟩, r := ⟨[(4, (.d cI))], [], [], 272⟩, F := audit_black_l0 }
def audit_black_c : Ctx := ⟨[(136, object_Black_sm)], [(127, Tryz.f127), (200, Tryz.f200), (203, Tryz.f203)], [⟨6, 200, 208, 0, audit_black_L0⟩]⟩
theorem audit_black_sem : SemOf Tryz.prog 131 audit_black_sm := semC (c := audit_black_c) Tryz.func131 (sc object_Black_sem an) (fc (flC Tryz.func127) (fc (flC Tryz.func200) (fc (flC Tryz.func203) an))) (ec (aeC [true, false, true, false, false] audit_black_s0 Tryz.func200) an) 8
abbrev object_List_h0 : U := (.cons cI (.cons (.sl cSpan) (.cons cI (.cons cI (.cons cI (.cons cI (.cons cHeap (.cons cSpan (.cons (.sl cI) .nil)))))))))
abbrev object_List_o0 : U := (.cons (.sl cSpan) (.cons cI (.cons cI (.cons cHeap (.cons (.sl cI) .nil)))))
abbrev object_List_e0 : U := .nil
def object_List_s0r (v3 : Int) (v10 : List Span) (v11 : Int) (v12 : Int) (v22 : Int) (v23 : Int) (c80 : Heap) (c273 : Span) (r433 : List Int) : Option (SRes object_List_h0 object_List_o0 object_List_e0) :=
 bif decide (v23 < v22) then
  (class_Words (c273.2.1, ())).bind fun y2 =>
  (object_Get (c80, wi64 ((wi64 (v3 * 32)) + (wi64 (v23 * y2.1))), ())).bind fun y3 =>
  bif y3.2.1 then
   bif decide ((r433.length + 1) * 8 ≤ 140737488355328) then
    some (.next (v3, v10, v11, v12, v22, wi64 (v23 + 1), c80, c273, r433 ++ [wi64 ((wi64 (v3 * 32)) + (wi64 (v23 * y2.1)))], ()))
   else none
  else
  some (.next (v3, v10, v11, v12, v22, wi64 (v23 + 1), c80, c273, r433, ()))
 else
 some (.fin (.out (v10, v11, v12, c80, r433, ())))
def object_List_s0 (x : object_List_h0.T) : Option (SRes object_List_h0 object_List_o0 object_List_e0) := object_List_s0r x.1 x.2.1 x.2.2.1 x.2.2.2.1 x.2.2.2.2.1 x.2.2.2.2.2.1 x.2.2.2.2.2.2.1 x.2.2.2.2.2.2.2.1 x.2.2.2.2.2.2.2.2.1
def object_List_l0 (x : object_List_h0.T) : Option (LRes object_List_o0 object_List_e0) := iterL object_List_s0 9223372036854775808 x
abbrev object_List_h1 : U := (.cons (.sl cSpan) (.cons cI (.cons cI (.cons cHeap (.cons (.sl cI) .nil)))))
abbrev object_List_o1 : U := (.cons (.sl cI) .nil)
abbrev object_List_e1 : U := .nil
def object_List_s1r (v10 : List Span) (v11 : Int) (v12 : Int) (c80 : Heap) (r208 : List Int) : Option (SRes object_List_h1 object_List_o1 object_List_e1) :=
 bif decide (v12 < v11) then
  bif decide (0 ≤ v12) then
   bif decide (v12 < (v10.length : Int)) then
    bif (v10.getD v12.toNat (0, 0, 0, ())).1 == 0 then
     some (.next (v10, v11, wi64 (v12 + 1), c80, r208, ()))
    else
    (class_Blocks ((v10.getD v12.toNat (0, 0, 0, ())).2.1, ())).bind fun y1 =>
    (object_List_l0 (v12, v10, v11, v12, y1.1, 0, c80, v10.getD v12.toNat (0, 0, 0, ()), r208, ())).bind fun s4 => match s4 with
    | .out s4 =>
     some (.next (s4.1, s4.2.1, wi64 (s4.2.2.1 + 1), s4.2.2.2.1, s4.2.2.2.2.1, ()))
    | .ret s4 =>
     none
   else none
  else none
 else
 some (.fin (.out (r208, ())))
def object_List_s1 (x : object_List_h1.T) : Option (SRes object_List_h1 object_List_o1 object_List_e1) := object_List_s1r x.1 x.2.1 x.2.2.1 x.2.2.2.1 x.2.2.2.2.1
def object_List_l1 (x : object_List_h1.T) : Option (LRes object_List_o1 object_List_e1) := iterL object_List_s1 9223372036854775808 x
def object_List_r (a0 : Heap) : Option ((List Int) × Unit) :=
 (object_List_l1 (a0.2.1, (a0.2.1.length : Int), 0, a0, [], ())).bind fun s5 => match s5 with
 | .out s5 =>
  some (s5.1, ())
 | .ret s5 =>
  none
def object_List (x : Heap × Unit) : Option ((List Int) × Unit) := object_List_r x.1
def object_List_sm : Sum := ⟨(.cons cHeap .nil), (.cons (.own cI) .nil), object_List⟩
def object_List_L0 : LoopSum := { hc := ⟨[], [0, 1, 3, 4, 10, 11, 12, 22, 23], [(.key 32 [], cI)], [], [32, 80, 273], [], 433⟩, h := ⟨[(0, (.fn 132 (.cons (.pvar 32 []) .nil) .yld)), (1, (.pvar 80 [])), (3, (.d cI)), (4, (.pvar 273 [])), (10, (.d (.sl cSpan))), (11, (.d cI)), (12, (.d cI)), (22, (.d cI)), (23, (.d cI))], [(32, (.row 433)), (80, (.d cHeap)), (273, (.d cSpan))], [(433, cI, true)], 434⟩, xid := 2, oc := ⟨[], [0, 1, 10, 11, 12], [(.key 32 [], cI)], [], [32, 80], [], 433⟩, o := ⟨[(0, (.fn 132 (.cons (.pvar 32 []) .nil) .yld)), (1, (.pvar 80 [])), (10, (.d (.sl cSpan))), (11, (.d cI)), (12, (.d cI))], [(32, (.row 433)), (80, (.d cHeap))], [(433, cI, true)], 434⟩, rc := ⟨[], [], [], [], [433], [], 433⟩, r := ⟨[], [], [], 433⟩, F := object_List_l0 }
def object_List_L1 : LoopSum := { hc := ⟨[], [0, 1, 10, 11, 12], [(.key 32 [], cI)], [], [32, 80], [], 208⟩, h := ⟨[(0, (.fn 132 (.cons (.pvar 32 []) .nil) .yld)), (1, (.pvar 80 [])), (10, (.d (.sl cSpan))), (11, (.d cI)), (12, (.d cI))], [(32, (.row 208)), (80, (.d cHeap))], [(208, cI, true)], 209⟩, xid := 0, oc := ⟨[], [], [(.key 32 [], cI)], [], [32], [], 208⟩, o := ⟨[], [(32, (.row 208))], [(208, cI, true)], 209⟩, rc := ⟨[], [], [], [], [208], [], 208⟩, r := ⟨[], [], [], 208⟩, F := object_List_l1 }
def object_List_c : Ctx := ⟨[(130, object_Get_sm), (153, class_Words_sm), (164, class_Blocks_sm)], [(132, Tryz.f132), (204, Tryz.f204), (266, Tryz.f266)], [⟨7, 266, 144, 2, object_List_L0⟩, ⟨7, 266, 144, 0, object_List_L1⟩]⟩
theorem object_List_sem : SemOf Tryz.prog 132 object_List_sm := semC (c := object_List_c) Tryz.func132 (sc object_Get_sem (sc class_Words_sem (sc class_Blocks_sem an))) (fc (flC Tryz.func132 (hG := rng_some [3] (by kernel_rfl) (by kernel_rfl))) (fc (flC Tryz.func204) (fc (flC Tryz.func266) an))) (ec (aeC [true, false, false, true, true, false, false, true, true, true, false, false] object_List_s0 Tryz.func266) (ec (aeC [true, false, false] object_List_s1 Tryz.func266) an)) 8 (hG := rng_some [3] (by kernel_rfl) (by kernel_rfl))
def audit_rest_r (a0 : Wrld) : Option (Bool × Unit) :=
 bif a0.2.2.2.2.1 != 0 then
  some (true, ())
 else
 (sweep_Dirty (a0.2.1, ())).bind fun y1 =>
 bif y1.1 == 0 then
  (object_List (a0.2.1, ())).bind fun y2 =>
  (audit_black (a0, y2.1, ())).bind fun y3 =>
  some (y3.1, ())
 else
 some (false, ())
def audit_rest (x : Wrld × Unit) : Option (Bool × Unit) := audit_rest_r x.1
def audit_rest_sm : Sum := ⟨(.cons cWrld .nil), (.cons (.d .bool) .nil), audit_rest⟩
def audit_rest_c : Ctx := ⟨[(93, sweep_Dirty_sm), (131, audit_black_sm), (132, object_List_sm)], [], []⟩
theorem audit_rest_sem : SemOf Tryz.prog 60 audit_rest_sm := semC (c := audit_rest_c) Tryz.func60 (sc sweep_Dirty_sem (sc audit_black_sem (sc object_List_sem an))) an an 8
abbrev reach_From_h0 : U := (.cons cHeap (.cons (.sl (.cons cI (.cons .bool .nil))) (.cons (.sl cI) .nil)))
abbrev reach_From_o0 : U := (.cons (.sl (.cons cI (.cons .bool .nil))) .nil)
abbrev reach_From_e0 : U := .nil
def reach_From_s0r (c0 : Heap) (c32 : List (Int × Bool × Unit)) (r112 : List Int) : Option (SRes reach_From_h0 reach_From_o0 reach_From_e0) :=
 bif decide ((r112.length : Int) > 0) then
  bif decide (0 ≤ (wi64 ((r112.length : Int) - 1))) then
   bif decide ((wi64 ((r112.length : Int) - 1)) < (r112.length : Int)) then
    bif decide (0 ≤ (wi64 ((r112.length : Int) - 1))) then
     bif decide ((wi64 ((r112.length : Int) - 1)) ≤ (r112.length : Int)) then
      (object_Get (c0, r112.getD (wi64 ((r112.length : Int) - 1)).toNat 0, ())).bind fun y2 =>
      bif !y2.2.1 then
       some (.next (c0, c32, (r112.drop 0).take ((wi64 ((r112.length : Int) - 1)).toNat - 0), ()))
      else
      bif mget false c32 (r112.getD (wi64 ((r112.length : Int) - 1)).toNat 0) then
       some (.next (c0, c32, (r112.drop 0).take ((wi64 ((r112.length : Int) - 1)).toNat - 0), ()))
      else
      bif decide (c32.length < 9223372036854775807) then
       (object_Refs (c0, r112.getD (wi64 ((r112.length : Int) - 1)).toNat 0, ())).bind fun y3 =>
       bif decide ((((r112.drop 0).take ((wi64 ((r112.length : Int) - 1)).toNat - 0)).length + y3.1.length) * 8 ≤ 140737488355328) then
        some (.next (c0, mput c32 (r112.getD (wi64 ((r112.length : Int) - 1)).toNat 0) true, ((r112.drop 0).take ((wi64 ((r112.length : Int) - 1)).toNat - 0)) ++ y3.1, ()))
       else none
      else none
     else none
    else none
   else none
  else none
 else
 some (.fin (.out (c32, ())))
def reach_From_s0 (x : reach_From_h0.T) : Option (SRes reach_From_h0 reach_From_o0 reach_From_e0) := reach_From_s0r x.1 x.2.1 x.2.2.1
def reach_From_l0 (x : reach_From_h0.T) : Option (LRes reach_From_o0 reach_From_e0) := iterL reach_From_s0 9223372036854775808 x
def reach_From_r (a0 : Heap) (a1 : List Val) : Option ((List Int) × Unit) :=
 (roots_Refs (a1, ())).bind fun y1 =>
 (reach_From_l0 (a0, [], y1.1, ())).bind fun s4 => match s4 with
 | .out s4 =>
  bif s4.1.all fun p => inI64 p.1 then
   bif decide (s4.1.length * 8 ≤ 140737488355328) then
    some (isort (s4.1.map fun p => p.1), ())
   else none
  else none
 | .ret s4 =>
  none
def reach_From (x : Heap × (List Val) × Unit) : Option ((List Int) × Unit) := reach_From_r x.1 x.2.1
def reach_From_sm : Sum := ⟨(.cons cHeap (.cons (.sl cVal) .nil)), (.cons (.own cI) .nil), reach_From⟩
def reach_From_L0 : LoopSum := { hc := ⟨[], [2, 5, 6], [(.tmp 6, cI)], [], [0, 32], [], 112⟩, h := ⟨[(2, (.pvar 0 [])), (5, (.mp 32)), (6, (.row 112))], [(0, (.d cHeap)), (32, (.mapd .bool))], [(112, cI, true)], 113⟩, xid := 0, oc := ⟨[], [5], [], [], [32], [], 112⟩, o := ⟨[(5, (.mp 32))], [(32, (.mapd .bool))], [], 112⟩, rc := ⟨[], [], [], [], [112], [], 112⟩, r := ⟨[], [], [], 112⟩, F := reach_From_l0 }
def reach_From_c : Ctx := ⟨[(128, roots_Refs_sm), (130, object_Get_sm), (155, object_Refs_sm)], [(157, Tryz.f157)], [⟨8, 89, 0, 0, reach_From_L0⟩]⟩
theorem reach_From_sem : SemOf Tryz.prog 89 reach_From_sm := semC (c := reach_From_c) Tryz.func89 (sc roots_Refs_sem (sc object_Get_sem (sc object_Refs_sem an))) (fc (flC Tryz.func157) an) (ec (aeC [true, true, false, true, false, false] reach_From_s0 Tryz.func89) an) 8
abbrev audit_todo_h0 : U := (.cons cI (.cons cI (.cons (.sl cI) (.cons cI (.cons cI (.cons cWrld (.cons (.sl cGrey) (.cons (.sl cVal) .nil))))))))
abbrev audit_todo_o0 : U := (.cons cI (.cons cI (.cons cWrld (.cons (.sl cGrey) (.cons (.sl cVal) .nil)))))
abbrev audit_todo_e0 : U := .nil
def audit_todo_s0r (v23 : Int) (v24 : Int) (v29 : List Int) (v30 : Int) (v31 : Int) (c0 : Wrld) (r288 : List Grey) (r481 : List Val) : Option (SRes audit_todo_h0 audit_todo_o0 audit_todo_e0) :=
 bif decide (v31 < v30) then
  bif decide (0 ≤ v31) then
   bif decide (v31 < (v29.length : Int)) then
    bif decide ((r481.length + 1) * 16 ≤ 140737488355328) then
     some (.next (v23, v24, v29, v30, wi64 (v31 + 1), c0, r288, r481 ++ [(2, v29.getD v31.toNat 0, ())], ()))
    else none
   else none
  else none
 else
 some (.fin (.out (v23, v24, c0, r288, r481, ())))
def audit_todo_s0 (x : audit_todo_h0.T) : Option (SRes audit_todo_h0 audit_todo_o0 audit_todo_e0) := audit_todo_s0r x.1 x.2.1 x.2.2.1 x.2.2.2.1 x.2.2.2.2.1 x.2.2.2.2.2.1 x.2.2.2.2.2.2.1 x.2.2.2.2.2.2.2.1
def audit_todo_l0 (x : audit_todo_h0.T) : Option (LRes audit_todo_o0 audit_todo_e0) := iterL audit_todo_s0 9223372036854775808 x
abbrev audit_todo_h1 : U := (.cons cI (.cons cI (.cons cWrld (.cons (.sl cGrey) (.cons (.sl cVal) .nil)))))
abbrev audit_todo_o1 : U := (.cons cWrld (.cons (.sl cVal) .nil))
abbrev audit_todo_e1 : U := .nil
def audit_todo_s1r (v23 : Int) (v24 : Int) (c0 : Wrld) (r288 : List Grey) (r336 : List Val) : Option (SRes audit_todo_h1 audit_todo_o1 audit_todo_e1) :=
 bif decide (v24 < v23) then
  bif decide (0 ≤ v24) then
   bif decide (v24 < (r288.length : Int)) then
    (audit_todo_l0 (v23, v24, (r288.getD v24.toNat (0, [], ())).2.1, ((r288.getD v24.toNat (0, [], ())).2.1.length : Int), 0, c0, r288, r336, ())).bind fun s3 => match s3 with
    | .out s3 =>
     some (.next (s3.1, wi64 (s3.2.1 + 1), s3.2.2.1, s3.2.2.2.1, s3.2.2.2.2.1, ()))
    | .ret s3 =>
     none
   else none
  else none
 else
 some (.fin (.out (c0, r336, ())))
def audit_todo_s1 (x : audit_todo_h1.T) : Option (SRes audit_todo_h1 audit_todo_o1 audit_todo_e1) := audit_todo_s1r x.1 x.2.1 x.2.2.1 x.2.2.2.1 x.2.2.2.2.1
def audit_todo_l1 (x : audit_todo_h1.T) : Option (LRes audit_todo_o1 audit_todo_e1) := iterL audit_todo_s1 9223372036854775808 x
def audit_todo_r (a0 : Wrld) : Option ((List Int) × Unit) :=
 (slices_Clone_api_Value (a0.2.2.2.1.2.2.1, ())).bind fun y1 =>
 (slices_Clone_api_Grey (a0.2.2.2.1.2.1, ())).bind fun y2 =>
 bif decide ((y2.1.length + 1) * 32 ≤ 140737488355328) then
  (audit_todo_l1 (((y2.1 ++ [a0.2.2.2.1.1]).length : Int), 0, a0, y2.1 ++ [a0.2.2.2.1.1], y1.1, ())).bind fun s4 => match s4 with
  | .out s4 =>
   bif decide ((s4.2.1.length + 1) * 16 ≤ 140737488355328) then
    (reach_From (s4.1.2.1, s4.2.1 ++ [(2, s4.1.2.2.2.1.2.2.2.1, ())], ())).bind fun y5 =>
    some (y5.1, ())
   else none
  | .ret s4 =>
   none
 else none
def audit_todo (x : Wrld × Unit) : Option ((List Int) × Unit) := audit_todo_r x.1
def audit_todo_sm : Sum := ⟨(.cons cWrld .nil), (.cons (.own cI) .nil), audit_todo⟩
def audit_todo_L0 : LoopSum := { hc := ⟨[], [1, 3, 4, 22, 23, 24, 29, 30, 31], [(.key 96 [], cVal)], [], [0, 96], [288], 481⟩, h := ⟨[(1, (.pvar 0 [])), (3, (.pvar 96 [])), (4, (.fn 205 .nil (.cons (.pvar 96 []) .nil))), (22, (.row 288)), (23, (.d cI)), (24, (.d cI)), (29, (.d (.sl cI))), (30, (.d cI)), (31, (.d cI))], [(0, (.d cWrld)), (96, (.row 481))], [(288, cGrey, true), (481, cVal, true)], 482⟩, xid := 2, oc := ⟨[], [1, 3, 4, 22, 23, 24], [(.ptr 3 [], cVal)], [], [0, 96], [288], 481⟩, o := ⟨[(1, (.pvar 0 [])), (3, (.pvar 96 [])), (4, (.fn 205 .nil (.cons (.pvar 96 []) .nil))), (22, (.row 288)), (23, (.d cI)), (24, (.d cI))], [(0, (.d cWrld)), (96, (.row 481))], [(288, cGrey, true), (481, cVal, true)], 482⟩, rc := ⟨[], [], [], [], [481], [], 481⟩, r := ⟨[], [], [], 481⟩, F := audit_todo_l0 }
def audit_todo_L1 : LoopSum := { hc := ⟨[], [1, 3, 4, 22, 23, 24], [(.key 96 [], cVal)], [], [0, 96], [288], 336⟩, h := ⟨[(1, (.pvar 0 [])), (3, (.pvar 96 [])), (4, (.fn 205 .nil (.cons (.pvar 96 []) .nil))), (22, (.row 288)), (23, (.d cI)), (24, (.d cI))], [(0, (.d cWrld)), (96, (.row 336))], [(288, cGrey, true), (336, cVal, true)], 337⟩, xid := 0, oc := ⟨[], [1, 3, 4], [(.ptr 3 [], cVal)], [], [0, 96], [], 336⟩, o := ⟨[(1, (.pvar 0 [])), (3, (.pvar 96 [])), (4, (.fn 205 .nil (.cons (.pvar 96 []) .nil)))], [(0, (.d cWrld)), (96, (.row 336))], [(336, cVal, true)], 337⟩, rc := ⟨[], [], [], [], [336], [], 336⟩, r := ⟨[], [], [], 336⟩, F := audit_todo_l1 }
def audit_todo_c : Ctx := ⟨[(89, reach_From_sm), (174, slices_Clone_api_Value_sm), (206, slices_Clone_api_Grey_sm)], [(205, Tryz.f205)], [⟨8, 133, 0, 2, audit_todo_L0⟩, ⟨8, 133, 0, 0, audit_todo_L1⟩]⟩
theorem audit_todo_sem : SemOf Tryz.prog 133 audit_todo_sm := semC (c := audit_todo_c) Tryz.func133 (sc reach_From_sem (sc slices_Clone_api_Value_sem (sc slices_Clone_api_Grey_sem an))) (fc (flC Tryz.func205) an) (ec (aeC [true, true, true, false, true, false, false, true, true, false, false, true, true, false, false] audit_todo_s0 Tryz.func133) (ec (aeC [true, true, true, false, true, false, false] audit_todo_s1 Tryz.func133) an)) 8
def audit_held_r (a0 : Wrld) : Option ((List Int) × Unit) :=
 (snap_Held (a0.2.2.1, ())).bind fun y1 =>
 (reach_From (a0.2.1, y1.1, ())).bind fun y2 =>
 some (y2.1, ())
def audit_held (x : Wrld × Unit) : Option ((List Int) × Unit) := audit_held_r x.1
def audit_held_sm : Sum := ⟨(.cons cWrld .nil), (.cons (.own cI) .nil), audit_held⟩
def audit_held_c : Ctx := ⟨[(89, reach_From_sm), (90, snap_Held_sm)], [], []⟩
theorem audit_held_sem : SemOf Tryz.prog 134 audit_held_sm := semC (c := audit_held_c) Tryz.func134 (sc reach_From_sem (sc snap_Held_sem an)) an an 8
def cmp_isNaN_r (a0 : Int) : Option (Bool × Unit) :=
 some (a0 != a0, ())
def cmp_isNaN (x : Int × Unit) : Option (Bool × Unit) := cmp_isNaN_r x.1
def cmp_isNaN_sm : Sum := ⟨(.cons cI .nil), (.cons (.d .bool) .nil), cmp_isNaN⟩
def cmp_isNaN_c : Ctx := ⟨[], [], []⟩
theorem cmp_isNaN_sem : SemOf Tryz.prog 314 cmp_isNaN_sm := semC (c := cmp_isNaN_c) Tryz.func314 an an an 8
def cmp_Less_r (a0 : Int) (a1 : Int) : Option (Bool × Unit) :=
 (cmp_isNaN (a0, ())).bind fun y1 =>
 bif y1.1 then
  (cmp_isNaN (a1, ())).bind fun y2 =>
  bif !y2.1 then
   some (true, ())
  else
  some (decide (a0 < a1), ())
 else
 some (decide (a0 < a1), ())
def cmp_Less (x : Val) : Option (Bool × Unit) := cmp_Less_r x.1 x.2.1
def cmp_Less_sm : Sum := ⟨cVal, (.cons (.d .bool) .nil), cmp_Less⟩
def cmp_Less_c : Ctx := ⟨[(314, cmp_isNaN_sm)], [], []⟩
theorem cmp_Less_sem : SemOf Tryz.prog 267 cmp_Less_sm := semC (c := cmp_Less_c) Tryz.func267 (sc cmp_isNaN_sem an) an an 8
def slices_isNaN_r (a0 : Int) : Option (Bool × Unit) :=
 some (a0 != a0, ())
def slices_isNaN (x : Int × Unit) : Option (Bool × Unit) := slices_isNaN_r x.1
def slices_isNaN_sm : Sum := ⟨(.cons cI .nil), (.cons (.d .bool) .nil), slices_isNaN⟩
def slices_isNaN_c : Ctx := ⟨[], [], []⟩
theorem slices_isNaN_sem : SemOf Tryz.prog 268 slices_isNaN_sm := semC (c := slices_isNaN_c) Tryz.func268 an an an 8
abbrev slices_BinarySearch_h0 : U := (.cons (.sl cI) (.cons cI (.cons cI cVal)))
abbrev slices_BinarySearch_o0 : U := (.cons (.sl cI) (.cons cI cVal))
abbrev slices_BinarySearch_e0 : U := .nil
def slices_BinarySearch_s0r (v0 : List Int) (v1 : Int) (v6 : Int) (v7 : Int) (v8 : Int) : Option (SRes slices_BinarySearch_h0 slices_BinarySearch_o0 slices_BinarySearch_e0) :=
 bif decide (v7 < v8) then
  bif decide (0 ≤ (wi64 (shiftI false .u64 (wu64 (wi64 (v7 + v8))) 1))) then
   bif decide ((wi64 (shiftI false .u64 (wu64 (wi64 (v7 + v8))) 1)) < (v0.length : Int)) then
    (cmp_Less (v0.getD (wi64 (shiftI false .u64 (wu64 (wi64 (v7 + v8))) 1)).toNat 0, v1, ())).bind fun y1 =>
    bif y1.1 then
     some (.next (v0, v1, v6, wi64 ((wi64 (shiftI false .u64 (wu64 (wi64 (v7 + v8))) 1)) + 1), v8, ()))
    else
    some (.next (v0, v1, v6, v7, wi64 (shiftI false .u64 (wu64 (wi64 (v7 + v8))) 1), ()))
   else none
  else none
 else
 some (.fin (.out (v0, v1, v6, v7, ())))
def slices_BinarySearch_s0 (x : slices_BinarySearch_h0.T) : Option (SRes slices_BinarySearch_h0 slices_BinarySearch_o0 slices_BinarySearch_e0) := slices_BinarySearch_s0r x.1 x.2.1 x.2.2.1 x.2.2.2.1 x.2.2.2.2.1
def slices_BinarySearch_l0 (x : slices_BinarySearch_h0.T) : Option (LRes slices_BinarySearch_o0 slices_BinarySearch_e0) := iterL slices_BinarySearch_s0 9223372036854775808 x
def slices_BinarySearch_r (a0 : List Int) (a1 : Int) : Option (Int × Bool × Unit) :=
 (slices_BinarySearch_l0 (a0, a1, (a0.length : Int), 0, (a0.length : Int), ())).bind fun s2 => match s2 with
 | .out s2 =>
  bif decide (s2.2.2.2.1 < s2.2.2.1) then
   bif decide (0 ≤ s2.2.2.2.1) then
    bif decide (s2.2.2.2.1 < (s2.1.length : Int)) then
     bif (s2.1.getD s2.2.2.2.1.toNat 0) == s2.2.1 then
      some (s2.2.2.2.1, true, ())
     else
     bif decide (0 ≤ s2.2.2.2.1) then
      bif decide (s2.2.2.2.1 < (s2.1.length : Int)) then
       (slices_isNaN (s2.1.getD s2.2.2.2.1.toNat 0, ())).bind fun y3 =>
       bif y3.1 then
        (slices_isNaN (s2.2.1, ())).bind fun y4 =>
        some (s2.2.2.2.1, y4.1, ())
       else
       some (s2.2.2.2.1, false, ())
      else none
     else none
    else none
   else none
  else
  some (s2.2.2.2.1, false, ())
 | .ret s2 =>
  none
def slices_BinarySearch (x : (List Int) × Int × Unit) : Option (Int × Bool × Unit) := slices_BinarySearch_r x.1 x.2.1
def slices_BinarySearch_sm : Sum := ⟨(.cons (.sl cI) (.cons cI .nil)), (.cons (.d cI) (.cons (.d .bool) .nil)), slices_BinarySearch⟩
def slices_BinarySearch_L0 : LoopSum := { hc := ⟨[], [0, 1, 6, 7, 8], [], [], [], [], 128⟩, h := ⟨[(0, (.d (.sl cI))), (1, (.d cI)), (6, (.d cI)), (7, (.d cI)), (8, (.d cI))], [], [], 128⟩, xid := 0, oc := ⟨[], [0, 1, 6, 7], [], [], [], [], 128⟩, o := ⟨[(0, (.d (.sl cI))), (1, (.d cI)), (6, (.d cI)), (7, (.d cI))], [], [], 128⟩, rc := ⟨[], [], [], [], [128], [], 128⟩, r := ⟨[], [], [], 128⟩, F := slices_BinarySearch_l0 }
def slices_BinarySearch_c : Ctx := ⟨[(267, cmp_Less_sm), (268, slices_isNaN_sm)], [], [⟨8, 207, 0, 0, slices_BinarySearch_L0⟩]⟩
theorem slices_BinarySearch_sem : SemOf Tryz.prog 207 slices_BinarySearch_sm := semC (c := slices_BinarySearch_c) Tryz.func207 (sc cmp_Less_sem (sc slices_isNaN_sem an)) an (ec (aeC [true, true, true, false, false, false] slices_BinarySearch_s0 Tryz.func207) an) 8
def audit_in_r (a0 : List Int) (a1 : Int) : Option (Bool × Unit) :=
 (slices_BinarySearch (a0, a1, ())).bind fun y1 =>
 some (y1.2.1, ())
def audit_in (x : (List Int) × Int × Unit) : Option (Bool × Unit) := audit_in_r x.1 x.2.1
def audit_in_sm : Sum := ⟨(.cons (.sl cI) (.cons cI .nil)), (.cons (.d .bool) .nil), audit_in⟩
def audit_in_c : Ctx := ⟨[(207, slices_BinarySearch_sm)], [], []⟩
theorem audit_in_sem : SemOf Tryz.prog 137 audit_in_sm := semC (c := audit_in_c) Tryz.func137 (sc slices_BinarySearch_sem an) an an 8
abbrev audit_marks_h0 : U := (.cons cI (.cons cI (.cons cWrld (.cons (.sl cI) (.cons (.sl cI) .nil)))))
abbrev audit_marks_o0 : U := .nil
abbrev audit_marks_e0 : U := (.cons cI .nil)
def audit_marks_s0r (v7 : Int) (v8 : Int) (c0 : Wrld) (r240 : List Int) (r384 : List Int) : Option (SRes audit_marks_h0 audit_marks_o0 audit_marks_e0) :=
 bif decide (v8 < v7) then
  bif decide (0 ≤ v8) then
   bif decide (v8 < (r384.length : Int)) then
    (object_Black (c0.2.1, r384.getD v8.toNat 0, ())).bind fun y6 =>
    bif !y6.1 then
     (audit_in (r240, r384.getD v8.toNat 0, ())).bind fun y7 =>
     bif !y7.1 then
      some (.fin (.ret (v8, ())))
     else
     some (.next (v7, wi64 (v8 + 1), c0, r240, r384, ()))
    else
    some (.next (v7, wi64 (v8 + 1), c0, r240, r384, ()))
   else none
  else none
 else
 some (.fin (.out ()))
def audit_marks_s0 (x : audit_marks_h0.T) : Option (SRes audit_marks_h0 audit_marks_o0 audit_marks_e0) := audit_marks_s0r x.1 x.2.1 x.2.2.1 x.2.2.2.1 x.2.2.2.2.1
def audit_marks_l0 (x : audit_marks_h0.T) : Option (LRes audit_marks_o0 audit_marks_e0) := iterL audit_marks_s0 9223372036854775808 x
def audit_marks_r (a0 : Wrld) : Option (Bool × Unit) :=
 bif a0.2.2.2.2.1 != 1 then
  some (true, ())
 else
 bif a0.2.2.2.1.2.2.2.2.2.2.1 then
  (sweep_Dirty (a0.2.1, ())).bind fun y1 =>
  some (y1.1 == 0, ())
 else
 bif decide (a0.2.2.2.1.2.2.2.2.2.1 ≥ 0) then
  (sweep_Dirty (a0.2.1, ())).bind fun y2 =>
  some (y2.1 == 0, ())
 else
 (audit_todo (a0, ())).bind fun y3 =>
 (sweep_Dirty (a0.2.1, ())).bind fun y4 =>
 bif y4.1 == 0 then
  (audit_held (a0, ())).bind fun y5 =>
  (audit_marks_l0 ((y5.1.length : Int), 0, a0, y3.1, y5.1, ())).bind fun s8 => match s8 with
  | .out s8 =>
   some (true, ())
  | .ret s8 =>
   some (!(decide (s8.1 ≥ 0)), ())
 else
 some (false, ())
def audit_marks (x : Wrld × Unit) : Option (Bool × Unit) := audit_marks_r x.1
def audit_marks_sm : Sum := ⟨(.cons cWrld .nil), (.cons (.d .bool) .nil), audit_marks⟩
def audit_marks_L0 : LoopSum := { hc := ⟨[], [0, 1, 7, 8], [], [], [0, 256], [240, 384], 640⟩, h := ⟨[(0, (.row 384)), (1, (.fn 135 .nil (.cons (.pvar 0 []) (.cons (.pvar 256 []) .nil)))), (7, (.d cI)), (8, (.d cI))], [(0, (.d cWrld)), (256, (.row 240))], [(240, cI, true), (384, cI, true)], 640⟩, xid := 0, oc := ⟨[], [], [], [], [], [], 640⟩, o := ⟨[], [], [], 640⟩, rc := ⟨[], [4], [], [], [], [], 640⟩, r := ⟨[(4, (.d cI))], [], [], 640⟩, F := audit_marks_l0 }
def audit_marks_c : Ctx := ⟨[(93, sweep_Dirty_sm), (133, audit_todo_sm), (134, audit_held_sm), (136, object_Black_sm), (137, audit_in_sm)], [(127, Tryz.f127), (135, Tryz.f135), (200, Tryz.f200)], [⟨6, 200, 576, 0, audit_marks_L0⟩]⟩
theorem audit_marks_sem : SemOf Tryz.prog 61 audit_marks_sm := semC (c := audit_marks_c) Tryz.func61 (sc sweep_Dirty_sem (sc audit_todo_sem (sc audit_held_sem (sc object_Black_sem (sc audit_in_sem an))))) (fc (flC Tryz.func127) (fc (flC Tryz.func135) (fc (flC Tryz.func200) an))) (ec (aeC [true, false, true, false, false] audit_marks_s0 Tryz.func200) an) 8
end
end Go.Proofs.YtkjpakaidjpjgaaGreatDoor.Den
