/- What functions come to. Printed by a program of this session. -/
import Derived.Test.YtkjpakaidjpjgaaGreatDoorDenF2
namespace Go.Proofs.YtkjpakaidjpjgaaGreatDoor.Den
open Go
set_option maxRecDepth 100000
set_option linter.unusedVariables false
noncomputable section
abbrev audit_sweeps_h0 : U := (.cons cI (.cons cI (.cons cWrld (.cons (.sl cI) .nil))))
abbrev audit_sweeps_o0 : U := (.cons cWrld (.cons (.sl cI) .nil))
abbrev audit_sweeps_e0 : U := (.cons cI (.cons cWrld (.cons (.sl cI) .nil)))
def audit_sweeps_s0r (v7 : Int) (v8 : Int) (c0 : Wrld) (r112 : List Int) : Option (SRes audit_sweeps_h0 audit_sweeps_o0 audit_sweeps_e0) :=
 bif decide (v8 < v7) then
  bif decide (0 ≤ v8) then
   bif decide (v8 < (r112.length : Int)) then
    bif decide (0 ≤ (wi64 ((r112.getD v8.toNat 0).tdiv 32))) then
     bif decide ((wi64 ((r112.getD v8.toNat 0).tdiv 32)) < (c0.2.1.2.1.length : Int)) then
      bif (c0.2.1.2.1.getD (wi64 ((r112.getD v8.toNat 0).tdiv 32)).toNat (0, 0, 0, ())).1 != 1 then
       some (.fin (.ret (v8, c0, r112, ())))
      else
      some (.next (v7, wi64 (v8 + 1), c0, r112, ()))
     else none
    else none
   else none
  else none
 else
 some (.fin (.out (c0, r112, ())))
def audit_sweeps_s0 (x : audit_sweeps_h0.T) : Option (SRes audit_sweeps_h0 audit_sweeps_o0 audit_sweeps_e0) := audit_sweeps_s0r x.1 x.2.1 x.2.2.1 x.2.2.2.1
def audit_sweeps_l0 (x : audit_sweeps_h0.T) : Option (LRes audit_sweeps_o0 audit_sweeps_e0) := iterL audit_sweeps_s0 9223372036854775808 x
abbrev audit_sweeps_h1 : U := (.cons cI (.cons cI (.cons cWrld (.cons (.sl cI) .nil))))
abbrev audit_sweeps_o1 : U := (.cons cI (.cons cWrld (.cons (.sl cI) .nil)))
abbrev audit_sweeps_e1 : U := .nil
def audit_sweeps_s1r (v5 : Int) (v6 : Int) (c0 : Wrld) (r112 : List Int) : Option (SRes audit_sweeps_h1 audit_sweeps_o1 audit_sweeps_e1) :=
 bif decide (v6 < (r112.length : Int)) then
  bif decide (0 ≤ v6) then
   bif decide (v6 < (r112.length : Int)) then
    bif decide (0 ≤ (wi64 ((r112.getD v6.toNat 0).tdiv 32))) then
     bif decide ((wi64 ((r112.getD v6.toNat 0).tdiv 32)) < (c0.2.1.2.1.length : Int)) then
      bif !((c0.2.1.2.1.getD (wi64 ((r112.getD v6.toNat 0).tdiv 32)).toNat (0, 0, 0, ())).1 != 1) then
       bif decide (0 ≤ v5) then
        bif decide (v5 < (r112.length : Int)) then
         some (.next (wi64 (v5 + 1), wi64 (v6 + 1), c0, r112.set v5.toNat (r112.getD v6.toNat 0), ()))
        else none
       else none
      else
      some (.next (v5, wi64 (v6 + 1), c0, r112, ()))
     else none
    else none
   else none
  else none
 else
 some (.fin (.out (v5, c0, r112, ())))
def audit_sweeps_s1 (x : audit_sweeps_h1.T) : Option (SRes audit_sweeps_h1 audit_sweeps_o1 audit_sweeps_e1) := audit_sweeps_s1r x.1 x.2.1 x.2.2.1 x.2.2.2.1
def audit_sweeps_l1 (x : audit_sweeps_h1.T) : Option (LRes audit_sweeps_o1 audit_sweeps_e1) := iterL audit_sweeps_s1 9223372036854775808 x
def audit_sweeps_r (a0 : Wrld) : Option (Bool × Unit) :=
 bif a0.2.2.2.2.1 != 2 then
  some (true, ())
 else
 (object_List (a0.2.1, ())).bind fun y1 =>
 (audit_sweeps_l0 ((y1.1.length : Int), 0, a0, y1.1, ())).bind fun s2 => match s2 with
 | .out s2 =>
  (audit_held (s2.1, ())).bind fun y3 =>
  (audit_black (s2.1, y3.1, ())).bind fun y4 =>
  bif y4.1 then
   (audit_black (s2.1, s2.2.1, ())).bind fun y5 =>
   some (y5.1, ())
  else
  some (false, ())
 | .ret s2 =>
  bif s2.1 == (-1) then
   (audit_held (s2.2.1, ())).bind fun y6 =>
   (audit_black (s2.2.1, y6.1, ())).bind fun y7 =>
   bif y7.1 then
    (audit_black (s2.2.1, s2.2.2.1, ())).bind fun y8 =>
    some (y8.1, ())
   else
   some (false, ())
  else
  (audit_sweeps_l1 (s2.1, wi64 (s2.1 + 1), s2.2.1, s2.2.2.1, ())).bind fun s9 => match s9 with
  | .out s9 =>
   bif decide (0 ≤ s9.1) then
    bif decide (s9.1 ≤ (s9.2.2.1.length : Int)) then
     bif decide ((s9.2.2.1.length : Int) ≤ (s9.2.2.1.length : Int)) then
      bif decide (0 ≤ s9.1) then
       bif decide (s9.1 ≤ ((segSet s9.2.2.1 s9.1.toNat (List.replicate ((s9.2.2.1.length : Int).toNat - s9.1.toNat) 0)).length : Int)) then
        (audit_held (s9.2.1, ())).bind fun y10 =>
        (audit_black (s9.2.1, y10.1, ())).bind fun y11 =>
        bif y11.1 then
         (audit_black (s9.2.1, ((segSet s9.2.2.1 s9.1.toNat (List.replicate ((s9.2.2.1.length : Int).toNat - s9.1.toNat) 0)).drop 0).take (s9.1.toNat - 0), ())).bind fun y12 =>
         some (y12.1, ())
        else
        some (false, ())
       else none
      else none
     else none
    else none
   else none
  | .ret s9 =>
   none
def audit_sweeps (x : Wrld × Unit) : Option (Bool × Unit) := audit_sweeps_r x.1
def audit_sweeps_sm : Sum := ⟨(.cons cWrld .nil), (.cons (.d .bool) .nil), audit_sweeps⟩
def audit_sweeps_L0 : LoopSum := { hc := ⟨[], [0, 1, 7, 8], [], [], [0], [112], 320⟩, h := ⟨[(0, (.row 112)), (1, (.fn 139 .nil (.cons (.pvar 0 []) .nil))), (7, (.d cI)), (8, (.d cI))], [(0, (.d cWrld))], [(112, cI, true)], 320⟩, xid := 0, oc := ⟨[], [], [], [], [0], [112], 320⟩, o := ⟨[], [(0, (.d cWrld))], [(112, cI, true)], 320⟩, rc := ⟨[], [4], [], [], [0], [112], 320⟩, r := ⟨[(4, (.d cI))], [(0, (.d cWrld))], [(112, cI, true)], 320⟩, F := audit_sweeps_l0 }
def audit_sweeps_L1 : LoopSum := { hc := ⟨[], [0, 1, 5, 6], [], [], [0], [112], 400⟩, h := ⟨[(0, (.row 112)), (1, (.fn 139 .nil (.cons (.pvar 0 []) .nil))), (5, (.d cI)), (6, (.d cI))], [(0, (.d cWrld))], [(112, cI, true)], 400⟩, xid := 0, oc := ⟨[], [0, 5], [], [], [0], [112], 400⟩, o := ⟨[(0, (.row 112)), (5, (.d cI))], [(0, (.d cWrld))], [(112, cI, true)], 400⟩, rc := ⟨[], [], [], [], [400], [], 400⟩, r := ⟨[], [], [], 400⟩, F := audit_sweeps_l1 }
def audit_sweeps_c : Ctx := ⟨[(131, audit_black_sm), (132, object_List_sm), (134, audit_held_sm)], [(138, Tryz.f138), (139, Tryz.f139), (200, Tryz.f200)], [⟨6, 200, 256, 0, audit_sweeps_L0⟩, ⟨7, 138, 176, 0, audit_sweeps_L1⟩]⟩
theorem audit_sweeps_sem : SemOf Tryz.prog 62 audit_sweeps_sm := semC (c := audit_sweeps_c) Tryz.func62 (sc audit_black_sem (sc object_List_sem (sc audit_held_sem an))) (fc (flC Tryz.func138) (fc (flC Tryz.func139) (fc (flC Tryz.func200) an))) (ec (aeC [true, false, true, false, false] audit_sweeps_s0 Tryz.func200) (ec (aeC [true, true, true, false, true, false, false] audit_sweeps_s1 Tryz.func138) an)) 8
def audit_Check_r (a0 : Wrld) : Option (Int × Unit) :=
 (world_Whole (a0, ())).bind fun y1 =>
 bif !y1.1 then
  some (1, ())
 else
 (audit_objects (a0, ())).bind fun y2 =>
 bif !y2.1 then
  some (2, ())
 else
 (audit_rest (a0, ())).bind fun y3 =>
 bif !y3.1 then
  some (3, ())
 else
 (audit_marks (a0, ())).bind fun y4 =>
 bif !y4.1 then
  some (4, ())
 else
 (audit_sweeps (a0, ())).bind fun y5 =>
 bif !y5.1 then
  some (5, ())
 else
 some (0, ())
def audit_Check (x : Wrld × Unit) : Option (Int × Unit) := audit_Check_r x.1
def audit_Check_sm : Sum := ⟨(.cons cWrld .nil), (.cons (.d cI) .nil), audit_Check⟩
def audit_Check_c : Ctx := ⟨[(58, world_Whole_sm), (59, audit_objects_sm), (60, audit_rest_sm), (61, audit_marks_sm), (62, audit_sweeps_sm)], [], []⟩
theorem audit_Check_sem : SemOf Tryz.prog 19 audit_Check_sm := semC (c := audit_Check_c) Tryz.func19 (sc world_Whole_sem (sc audit_objects_sem (sc audit_rest_sem (sc audit_marks_sem (sc audit_sweeps_sem an))))) an an 8
def audit_Ok_r (a0 : Wrld) : Option (Bool × Unit) :=
 (audit_Check (a0, ())).bind fun y1 =>
 some (y1.1 == 0, ())
def audit_Ok (x : Wrld × Unit) : Option (Bool × Unit) := audit_Ok_r x.1
def audit_Ok_sm : Sum := ⟨(.cons cWrld .nil), (.cons (.d .bool) .nil), audit_Ok⟩
def audit_Ok_c : Ctx := ⟨[(19, audit_Check_sm)], [], []⟩
theorem audit_Ok_sem : SemOf Tryz.prog 21 audit_Ok_sm := semC (c := audit_Ok_c) Tryz.func21 (sc audit_Check_sem an) an an 8
abbrev r22_New_h0 : U := (.cons cI (.cons cRep (.cons cRep (.cons (.cons .bool .nil) (.cons cI (.cons .nil (.cons (.cons cI (.cons cI (.cons cI (.cons .bool .nil)))) (.cons cI (.cons .bool (.cons cI (.cons .nil (.cons cRep (.cons (.cons .bool .nil) (.cons cI (.cons .nil (.cons (.cons cI (.cons cI (.cons cI (.cons .bool .nil)))) (.cons cI (.cons .bool (.cons cI (.cons .nil (.cons (.sl (.int .u64)) (.cons (.sl cSpan) (.cons (.sl cMut) .nil)))))))))))))))))))))))
abbrev r22_New_o0 : U := (.cons cRep (.cons (.cons .bool .nil) (.cons cI (.cons .nil (.cons (.cons cI (.cons cI (.cons cI (.cons .bool .nil)))) (.cons cI (.cons .bool (.cons cI (.cons .nil (.cons cRep (.cons (.cons .bool .nil) (.cons cI (.cons .nil (.cons (.cons cI (.cons cI (.cons cI (.cons .bool .nil)))) (.cons cI (.cons .bool (.cons cI (.cons .nil (.cons (.sl (.int .u64)) (.cons (.sl cSpan) (.cons (.sl cMut) .nil)))))))))))))))))))))
abbrev r22_New_e0 : U := .nil
def r22_New_s0r (v4 : Int) (c0 : Rep) (c16_0 : Rep) (c16_1 : Bool × Unit) (c16_2 : Int) (c16_3 : Unit) (c16_4 : Int × Int × Int × Bool × Unit) (c16_5 : Int) (c16_6 : Bool) (c16_7 : Int) (c16_8 : Unit) (c64_0 : Rep) (c64_1 : Bool × Unit) (c64_2 : Int) (c64_3 : Unit) (c64_4 : Int × Int × Int × Bool × Unit) (c64_5 : Int) (c64_6 : Bool) (c64_7 : Int) (c64_8 : Unit) (r144 : List Int) (r240 : List Span) (r320 : List Mut) : Option (SRes r22_New_h0 r22_New_o0 r22_New_e0) :=
 bif decide (v4 < c0.2.1) then
  bif decide ((r320.length + 1) * 120 ≤ 140737488355328) then
   some (.next (wi64 (v4 + 1), c0, c16_0, c16_1, c16_2, c16_3, c16_4, c16_5, c16_6, c16_7, c16_8, c64_0, c64_1, c64_2, c64_3, c64_4, c64_5, c64_6, c64_7, c64_8, r144, r240, r320 ++ [([], 0, (0, 0, 0, 0, ()), 0, (0, 0, ()), ([(-1), (-1), (-1), (-1)] : List Int), ())], ()))
  else none
 else
 some (.fin (.out (c16_0, c16_1, c16_2, c16_3, c16_4, c16_5, c16_6, c16_7, c16_8, c64_0, c64_1, c64_2, c64_3, c64_4, c64_5, c64_6, c64_7, c64_8, r144, r240, r320, ())))
def r22_New_s0 (x : r22_New_h0.T) : Option (SRes r22_New_h0 r22_New_o0 r22_New_e0) := r22_New_s0r x.1 x.2.1 x.2.2.1 x.2.2.2.1 x.2.2.2.2.1 x.2.2.2.2.2.1 x.2.2.2.2.2.2.1 x.2.2.2.2.2.2.2.1 x.2.2.2.2.2.2.2.2.1 x.2.2.2.2.2.2.2.2.2.1 x.2.2.2.2.2.2.2.2.2.2.1 x.2.2.2.2.2.2.2.2.2.2.2.1 x.2.2.2.2.2.2.2.2.2.2.2.2.1 x.2.2.2.2.2.2.2.2.2.2.2.2.2.1 x.2.2.2.2.2.2.2.2.2.2.2.2.2.2.1 x.2.2.2.2.2.2.2.2.2.2.2.2.2.2.2.1 x.2.2.2.2.2.2.2.2.2.2.2.2.2.2.2.2.1 x.2.2.2.2.2.2.2.2.2.2.2.2.2.2.2.2.2.1 x.2.2.2.2.2.2.2.2.2.2.2.2.2.2.2.2.2.2.1 x.2.2.2.2.2.2.2.2.2.2.2.2.2.2.2.2.2.2.2.1 x.2.2.2.2.2.2.2.2.2.2.2.2.2.2.2.2.2.2.2.2.1 x.2.2.2.2.2.2.2.2.2.2.2.2.2.2.2.2.2.2.2.2.2.1 x.2.2.2.2.2.2.2.2.2.2.2.2.2.2.2.2.2.2.2.2.2.2.1
def r22_New_l0 (x : r22_New_h0.T) : Option (LRes r22_New_o0 r22_New_e0) := iterL r22_New_s0 9223372036854775808 x
def r22_New_r (a0 : Rep) : Option (Wrld × Unit) :=
 bif (wi64 (32 * a0.1)) == (wi64 (32 * a0.1)) then
  bif decide (0 ≤ (wi64 (32 * a0.1))) then
   bif decide ((wi64 (32 * a0.1)).toNat * 8 ≤ 140737488355328) then
    bif a0.1 == a0.1 then
     bif decide (0 ≤ a0.1) then
      bif decide (a0.1.toNat * 24 ≤ 140737488355328) then
       (r22_New_l0 (0, a0, (0, 0, 0, 0, 0, ()), (false, ()), 0, (), (0, 0, 0, false, ()), 0, false, 0, (), a0, (false, ()), 0, (), (0, 0, 0, false, ()), 0, false, 0, (), List.replicate (wi64 (32 * a0.1)).toNat (0 : Int), List.replicate a0.1.toNat ((0, 0, 0, ()) : Span), [], ())).bind fun s1 => match s1 with
       | .out s1 =>
        some ((s1.2.2.2.2.2.2.2.2.2.1, (s1.2.2.2.2.2.2.2.2.2.2.2.2.2.2.2.2.2.2.1, s1.2.2.2.2.2.2.2.2.2.2.2.2.2.2.2.2.2.2.2.1, s1.2.2.2.2.2.2.2.2.2.2.1), s1.2.2.2.2.2.2.2.2.2.2.2.2.2.2.2.2.2.2.2.2.1, ((s1.2.2.2.2.2.2.2.2.2.2.2.1, [], s1.2.2.2.2.2.2.2.2.2.2.2.2.1), [], [], s1.2.2.2.2.2.2.2.2.2.2.2.2.2.1), s1.2.2.2.2.2.2.2.2.2.2.2.2.2.2.1, s1.2.2.2.2.2.2.2.2.2.2.2.2.2.2.2.1, s1.2.2.2.2.2.2.2.2.2.2.2.2.2.2.2.2.1, [], s1.2.2.2.2.2.2.2.2.2.2.2.2.2.2.2.2.2.1), ())
       | .ret s1 =>
        none
      else none
     else none
    else none
   else none
  else none
 else none
def r22_New (x : Rep × Unit) : Option (Wrld × Unit) := r22_New_r x.1
def r22_New_sm : Sum := ⟨(.cons cRep .nil), (.cons (.cons (.d cRep) (.cons (.cons (.own (.int .u64)) (.cons (.own cSpan) (.d (.cons .bool .nil)))) (.cons (.own cMut) (.cons (.cons (.cons (.d cI) (.cons (.own cI) (.d .nil))) (.cons (.own cGrey) (.cons (.own cVal) (.d (.cons cI (.cons cI (.cons cI (.cons .bool .nil)))))))) (.cons (.d cI) (.cons (.d .bool) (.cons (.d cI) (.cons (.own cRep) (.d .nil))))))))) .nil), r22_New⟩
def r22_New_L0 : LoopSum := { hc := ⟨[], [1, 2, 3, 4], [(.key 64 [.fld 2], cMut)], [], [0, 16, 64], [144, 240], 320⟩, h := ⟨[(1, (.pvar 0 [])), (2, (.pvar 16 [])), (3, (.pvar 64 [])), (4, (.d cI))], [(0, (.d cRep)), (16, (.cons (.d cRep) (.cons (.cons .nilsl (.cons .nilsl (.d (.cons .bool .nil)))) (.cons .nilsl (.cons (.cons (.cons (.d cI) (.cons .nilsl (.d .nil))) (.cons .nilsl (.cons .nilsl (.d (.cons cI (.cons cI (.cons cI (.cons .bool .nil)))))))) (.cons (.d cI) (.cons (.d .bool) (.cons (.d cI) (.cons .nilsl (.d .nil)))))))))), (64, (.cons (.d cRep) (.cons (.cons (.row 144) (.cons (.row 240) (.d (.cons .bool .nil)))) (.cons (.row 320) (.cons (.cons (.cons (.d cI) (.cons .nilsl (.d .nil))) (.cons .nilsl (.cons .nilsl (.d (.cons cI (.cons cI (.cons cI (.cons .bool .nil)))))))) (.cons (.d cI) (.cons (.d .bool) (.cons (.d cI) (.cons .nilsl (.d .nil))))))))))], [(144, (.int .u64), true), (240, cSpan, true), (320, cMut, true)], 321⟩, xid := 0, oc := ⟨[], [2, 3], [(.ptr 3 [.fld 2], cMut)], [], [16, 64], [144, 240], 320⟩, o := ⟨[(2, (.pvar 16 [])), (3, (.pvar 64 []))], [(16, (.cons (.d cRep) (.cons (.cons .nilsl (.cons .nilsl (.d (.cons .bool .nil)))) (.cons .nilsl (.cons (.cons (.cons (.d cI) (.cons .nilsl (.d .nil))) (.cons .nilsl (.cons .nilsl (.d (.cons cI (.cons cI (.cons cI (.cons .bool .nil)))))))) (.cons (.d cI) (.cons (.d .bool) (.cons (.d cI) (.cons .nilsl (.d .nil)))))))))), (64, (.cons (.d cRep) (.cons (.cons (.row 144) (.cons (.row 240) (.d (.cons .bool .nil)))) (.cons (.row 320) (.cons (.cons (.cons (.d cI) (.cons .nilsl (.d .nil))) (.cons .nilsl (.cons .nilsl (.d (.cons cI (.cons cI (.cons cI (.cons .bool .nil)))))))) (.cons (.d cI) (.cons (.d .bool) (.cons (.d cI) (.cons .nilsl (.d .nil))))))))))], [(144, (.int .u64), true), (240, cSpan, true), (320, cMut, true)], 321⟩, rc := ⟨[], [], [], [], [320], [], 320⟩, r := ⟨[], [], [], 320⟩, F := r22_New_l0 }
def r22_New_c : Ctx := ⟨[], [], [⟨8, 54, 0, 0, r22_New_L0⟩]⟩
theorem r22_New_sem : SemOf Tryz.prog 54 r22_New_sm := semC (c := r22_New_c) Tryz.func54 an an (ec (aeC [true, true, true, true, false, true, false, false] r22_New_s0 Tryz.func54) an) 8
def r14_Slot_r (a0 : List Val) (a1 : Int) : Option (Val × Int × Unit) :=
 bif decide (a1 < 0) then
  some ((0, 0, ()), 3, ())
 else
 bif decide (a1 ≥ (a0.length : Int)) then
  some ((0, 0, ()), 3, ())
 else
 bif decide (0 ≤ a1) then
  bif decide (a1 < (a0.length : Int)) then
   some (a0.getD a1.toNat (0, 0, ()), 0, ())
  else none
 else none
def r14_Slot (x : (List Val) × Int × Unit) : Option (Val × Int × Unit) := r14_Slot_r x.1 x.2.1
def r14_Slot_sm : Sum := ⟨(.cons (.sl cVal) (.cons cI .nil)), (.cons (.d cVal) (.cons (.d cI) .nil)), r14_Slot⟩
def r14_Slot_c : Ctx := ⟨[], [], []⟩
theorem r14_Slot_sem : SemOf Tryz.prog 110 r14_Slot_sm := semC (c := r14_Slot_c) Tryz.func110 an an an 8
def r14_Object_r (a0 : List Val) (a1 : Int) : Option Val :=
 (r14_Slot (a0, a1, ())).bind fun y1 =>
 bif y1.2.1 != 0 then
  some (0, y1.2.1, ())
 else
 bif y1.1.1 == 0 then
  some (0, 2, ())
 else
 bif y1.1.1 != 2 then
  some (0, 7, ())
 else
 some (y1.1.2.1, 0, ())
def r14_Object (x : (List Val) × Int × Unit) : Option Val := r14_Object_r x.1 x.2.1
def r14_Object_sm : Sum := ⟨(.cons (.sl cVal) (.cons cI .nil)), (.cons (.d cI) (.cons (.d cI) .nil)), r14_Object⟩
def r14_Object_c : Ctx := ⟨[(110, r14_Slot_sm)], [], []⟩
theorem r14_Object_sem : SemOf Tryz.prog 108 r14_Object_sm := semC (c := r14_Object_c) Tryz.func108 (sc r14_Slot_sem an) an an 8
abbrev r04_Words_h0 : U := (.cons cI cVal)
abbrev r04_Words_o0 : U := (.cons cI .nil)
abbrev r04_Words_e0 : U := .nil
def r04_Words_s0r (v0 : Int) (v3 : Int) (v4 : Int) : Option (SRes r04_Words_h0 r04_Words_o0 r04_Words_e0) :=
 bif decide (v4 < v0) then
  some (.next (v0, wi64 (2 * v3), wi64 (v4 + 1), ()))
 else
 some (.fin (.out (v3, ())))
def r04_Words_s0 (x : r04_Words_h0.T) : Option (SRes r04_Words_h0 r04_Words_o0 r04_Words_e0) := r04_Words_s0r x.1 x.2.1 x.2.2.1
def r04_Words_l0 (x : r04_Words_h0.T) : Option (LRes r04_Words_o0 r04_Words_e0) := iterL r04_Words_s0 9223372036854775808 x
def r04_Words_r (a0 : Int) : Option (Int × Unit) :=
 bif decide (a0 < 0) then
  some (0, ())
 else
 bif decide (a0 > 3) then
  some (0, ())
 else
 (r04_Words_l0 (a0, 2, 0, ())).bind fun s1 => match s1 with
 | .out s1 =>
  some (s1.1, ())
 | .ret s1 =>
  none
def r04_Words (x : Int × Unit) : Option (Int × Unit) := r04_Words_r x.1
def r04_Words_sm : Sum := ⟨(.cons cI .nil), (.cons (.d cI) .nil), r04_Words⟩
def r04_Words_L0 : LoopSum := { hc := ⟨[], [0, 3, 4], [], [], [], [], 144⟩, h := ⟨[(0, (.d cI)), (3, (.d cI)), (4, (.d cI))], [], [], 144⟩, xid := 0, oc := ⟨[], [3], [], [], [], [], 144⟩, o := ⟨[(3, (.d cI))], [], [], 144⟩, rc := ⟨[], [], [], [], [144], [], 144⟩, r := ⟨[], [], [], 144⟩, F := r04_Words_l0 }
def r04_Words_c : Ctx := ⟨[], [], [⟨8, 82, 0, 0, r04_Words_L0⟩]⟩
theorem r04_Words_sem : SemOf Tryz.prog 82 r04_Words_sm := semC (c := r04_Words_c) Tryz.func82 an an (ec (aeC [true, true, true, false, true, false, false] r04_Words_s0 Tryz.func82) an) 8
abbrev r04_Blocks_h0 : U := (.cons cI cVal)
abbrev r04_Blocks_o0 : U := (.cons cI .nil)
abbrev r04_Blocks_e0 : U := .nil
def r04_Blocks_s0r (v0 : Int) (v3 : Int) (v4 : Int) : Option (SRes r04_Blocks_h0 r04_Blocks_o0 r04_Blocks_e0) :=
 bif decide (v4 < v0) then
  some (.next (v0, wi64 (v3.tdiv 2), wi64 (v4 + 1), ()))
 else
 some (.fin (.out (v3, ())))
def r04_Blocks_s0 (x : r04_Blocks_h0.T) : Option (SRes r04_Blocks_h0 r04_Blocks_o0 r04_Blocks_e0) := r04_Blocks_s0r x.1 x.2.1 x.2.2.1
def r04_Blocks_l0 (x : r04_Blocks_h0.T) : Option (LRes r04_Blocks_o0 r04_Blocks_e0) := iterL r04_Blocks_s0 9223372036854775808 x
def r04_Blocks_r (a0 : Int) : Option (Int × Unit) :=
 bif decide (a0 < 0) then
  some (0, ())
 else
 bif decide (a0 > 3) then
  some (0, ())
 else
 (r04_Blocks_l0 (a0, 16, 0, ())).bind fun s1 => match s1 with
 | .out s1 =>
  some (s1.1, ())
 | .ret s1 =>
  none
def r04_Blocks (x : Int × Unit) : Option (Int × Unit) := r04_Blocks_r x.1
def r04_Blocks_sm : Sum := ⟨(.cons cI .nil), (.cons (.d cI) .nil), r04_Blocks⟩
def r04_Blocks_L0 : LoopSum := { hc := ⟨[], [0, 3, 4], [], [], [], [], 144⟩, h := ⟨[(0, (.d cI)), (3, (.d cI)), (4, (.d cI))], [], [], 144⟩, xid := 0, oc := ⟨[], [3], [], [], [], [], 144⟩, o := ⟨[(3, (.d cI))], [], [], 144⟩, rc := ⟨[], [], [], [], [144], [], 144⟩, r := ⟨[], [], [], 144⟩, F := r04_Blocks_l0 }
def r04_Blocks_c : Ctx := ⟨[], [], [⟨8, 83, 0, 0, r04_Blocks_L0⟩]⟩
theorem r04_Blocks_sem : SemOf Tryz.prog 83 r04_Blocks_sm := semC (c := r04_Blocks_c) Tryz.func83 an an (ec (aeC [true, true, true, false, true, false, false] r04_Blocks_s0 Tryz.func83) an) 8
abbrev r07_Find_h0 : U := (.cons cI (.cons cI (.cons cI (.cons cHeap .nil))))
abbrev r07_Find_o0 : U := (.cons cI (.cons cI (.cons cHeap .nil)))
abbrev r07_Find_e0 : U := (.cons cI (.cons cI (.cons .bool .nil)))
def r07_Find_s0r (v1 : Int) (v7 : Int) (v8 : Int) (c0 : Heap) : Option (SRes r07_Find_h0 r07_Find_o0 r07_Find_e0) :=
 bif decide (0 ≤ v7) then
  bif decide (v7 < (c0.2.1.length : Int)) then
   (r04_Blocks ((c0.2.1.getD v7.toNat (0, 0, 0, ())).2.1, ())).bind fun y1 =>
   bif decide (v8 < y1.1) then
    bif decide (0 ≤ v7) then
     bif decide (v7 < (c0.2.1.length : Int)) then
      (r04_Words ((c0.2.1.getD v7.toNat (0, 0, 0, ())).2.1, ())).bind fun y2 =>
      bif (wi64 ((wi64 (32 * v7)) + (wi64 (v8 * y2.1)))) == v1 then
       some (.fin (.ret (v7, v8, true, ())))
      else
      some (.next (v1, v7, wi64 (v8 + 1), c0, ()))
     else none
    else none
   else
   some (.fin (.out (v1, v7, c0, ())))
  else none
 else none
def r07_Find_s0 (x : r07_Find_h0.T) : Option (SRes r07_Find_h0 r07_Find_o0 r07_Find_e0) := r07_Find_s0r x.1 x.2.1 x.2.2.1 x.2.2.2.1
def r07_Find_l0 (x : r07_Find_h0.T) : Option (LRes r07_Find_o0 r07_Find_e0) := iterL r07_Find_s0 9223372036854775808 x
abbrev r07_Find_h1 : U := (.cons cI (.cons cI (.cons cHeap .nil)))
abbrev r07_Find_o1 : U := .nil
abbrev r07_Find_e1 : U := (.cons cI (.cons cI (.cons .bool .nil)))
def r07_Find_s1r (v1 : Int) (v7 : Int) (c0 : Heap) : Option (SRes r07_Find_h1 r07_Find_o1 r07_Find_e1) :=
 bif decide (v7 < (c0.2.1.length : Int)) then
  bif decide (0 ≤ v7) then
   bif decide (v7 < (c0.2.1.length : Int)) then
    bif (c0.2.1.getD v7.toNat (0, 0, 0, ())).1 == 0 then
     some (.next (v1, wi64 (v7 + 1), c0, ()))
    else
    (r07_Find_l0 (v1, v7, 0, c0, ())).bind fun s3 => match s3 with
    | .out s3 =>
     some (.next (s3.1, wi64 (s3.2.1 + 1), s3.2.2.1, ()))
    | .ret s3 =>
     some (.fin (.ret (s3.1, s3.2.1, s3.2.2.1, ())))
   else none
  else none
 else
 some (.fin (.out ()))
def r07_Find_s1 (x : r07_Find_h1.T) : Option (SRes r07_Find_h1 r07_Find_o1 r07_Find_e1) := r07_Find_s1r x.1 x.2.1 x.2.2.1
def r07_Find_l1 (x : r07_Find_h1.T) : Option (LRes r07_Find_o1 r07_Find_e1) := iterL r07_Find_s1 9223372036854775808 x
def r07_Find_r (a0 : Heap) (a1 : Int) : Option (Int × Int × Bool × Unit) :=
 (r07_Find_l1 (a1, 0, a0, ())).bind fun s4 => match s4 with
 | .out s4 =>
  some (0, 0, false, ())
 | .ret s4 =>
  some (s4.1, s4.2.1, s4.2.2.1, ())
def r07_Find (x : Heap × Int × Unit) : Option (Int × Int × Bool × Unit) := r07_Find_r x.1 x.2.1
def r07_Find_sm : Sum := ⟨(.cons cHeap (.cons cI .nil)), (.cons (.d cI) (.cons (.d cI) (.cons (.d .bool) .nil))), r07_Find⟩
def r07_Find_L0 : LoopSum := { hc := ⟨[], [1, 2, 7, 8], [], [], [0], [], 288⟩, h := ⟨[(1, (.d cI)), (2, (.pvar 0 [])), (7, (.d cI)), (8, (.d cI))], [(0, (.d cHeap))], [], 288⟩, xid := 2, oc := ⟨[], [1, 2, 7], [], [], [0], [], 288⟩, o := ⟨[(1, (.d cI)), (2, (.pvar 0 [])), (7, (.d cI))], [(0, (.d cHeap))], [], 288⟩, rc := ⟨[], [4, 5, 6], [], [], [], [], 288⟩, r := ⟨[(4, (.d cI)), (5, (.d cI)), (6, (.d .bool))], [], [], 288⟩, F := r07_Find_l0 }
def r07_Find_L1 : LoopSum := { hc := ⟨[], [1, 2, 7], [], [], [0], [], 80⟩, h := ⟨[(1, (.d cI)), (2, (.pvar 0 [])), (7, (.d cI))], [(0, (.d cHeap))], [], 80⟩, xid := 0, oc := ⟨[], [], [], [], [], [], 80⟩, o := ⟨[], [], [], 80⟩, rc := ⟨[], [4, 5, 6], [], [], [], [], 80⟩, r := ⟨[(4, (.d cI)), (5, (.d cI)), (6, (.d .bool))], [], [], 80⟩, F := r07_Find_l1 }
def r07_Find_c : Ctx := ⟨[(82, r04_Words_sm), (83, r04_Blocks_sm)], [], [⟨8, 141, 0, 2, r07_Find_L0⟩, ⟨8, 141, 0, 0, r07_Find_L1⟩]⟩
theorem r07_Find_sem : SemOf Tryz.prog 141 r07_Find_sm := semC (c := r07_Find_c) Tryz.func141 (sc r04_Words_sem (sc r04_Blocks_sem an)) an (ec (aeC [true, false, true, false, false, true, false, false, true, true, false, false] r07_Find_s0 Tryz.func141) (ec (aeC [true, false, true, false, false] r07_Find_s1 Tryz.func141) an)) 8
def r02_Put_r (a0 : Hdr) : Option (Int × Unit) :=
 bif !a0.1 then
  some (0, ())
 else
 bif a0.2.1 then
  some (wu64 (wi64 ((wi64 ((wi64 (128 + (wi64 (16 * a0.2.2.1)))) + a0.2.2.2.1)) + 64)), ())
 else
 some (wu64 (wi64 ((wi64 (128 + (wi64 (16 * a0.2.2.1)))) + a0.2.2.2.1)), ())
def r02_Put (x : Hdr × Unit) : Option (Int × Unit) := r02_Put_r x.1
def r02_Put_sm : Sum := ⟨(.cons cHdr .nil), (.cons (.d (.int .u64)) .nil), r02_Put⟩
def r02_Put_c : Ctx := ⟨[], [], []⟩
theorem r02_Put_sem : SemOf Tryz.prog 195 r02_Put_sm := semC (c := r02_Put_c) Tryz.func195 an an an 8
def r02_May_r (a0 : Hdr) : Option (Bool × Unit) :=
 bif !a0.1 then
  bif !a0.2.1 then
   bif a0.2.2.1 == 0 then
    some (a0.2.2.2.1 == 0, ())
   else
   some (false, ())
  else
  some (false, ())
 else
 bif decide (a0.2.2.1 < 0) then
  some (false, ())
 else
 bif decide (a0.2.2.1 > 3) then
  some (false, ())
 else
 bif decide (a0.2.2.2.1 < 0) then
  some (false, ())
 else
 bif decide (0 ≤ a0.2.2.1) then
  bif decide (a0.2.2.1 < 4) then
   some (decide (a0.2.2.2.1 ≤ ([1, 3, 7, 15].getD a0.2.2.1.toNat 0)), ())
  else none
 else none
def r02_May (x : Hdr × Unit) : Option (Bool × Unit) := r02_May_r x.1
def r02_May_sm : Sum := ⟨(.cons cHdr .nil), (.cons (.d .bool) .nil), r02_May⟩
def r02_May_c : Ctx := ⟨[], [], []⟩
theorem r02_May_sem : SemOf Tryz.prog 208 r02_May_sm := semC (c := r02_May_c) Tryz.func208 an an an 8
abbrev r02_Get_h0 : U := (.cons (.int .u64) (.cons cI (.cons cI (.cons cI (.cons cHdr .nil)))))
abbrev r02_Get_o0 : U := (.cons (.int .u64) (.cons cI (.cons cI (.cons cHdr .nil))))
abbrev r02_Get_e0 : U := (.cons .bool (.cons cHdr .nil))
def r02_Get_s0r (v0 : Int) (v4 : Int) (v5 : Int) (v6 : Int) (c0 : Hdr) : Option (SRes r02_Get_h0 r02_Get_o0 r02_Get_e0) :=
 bif decide (v6 < 2) then
  (r02_May ((true, v6 == 1, v4, v5, ()), ())).bind fun y1 =>
  bif y1.1 then
   (r02_Put ((true, v6 == 1, v4, v5, ()), ())).bind fun y2 =>
   bif y2.1 == v0 then
    some (.fin (.ret (true, (true, v6 == 1, v4, v5, ()), ())))
   else
   some (.next (v0, v4, v5, wi64 (v6 + 1), c0, ()))
  else
  some (.next (v0, v4, v5, wi64 (v6 + 1), c0, ()))
 else
 some (.fin (.out (v0, v4, v5, c0, ())))
def r02_Get_s0 (x : r02_Get_h0.T) : Option (SRes r02_Get_h0 r02_Get_o0 r02_Get_e0) := r02_Get_s0r x.1 x.2.1 x.2.2.1 x.2.2.2.1 x.2.2.2.2.1
def r02_Get_l0 (x : r02_Get_h0.T) : Option (LRes r02_Get_o0 r02_Get_e0) := iterL r02_Get_s0 9223372036854775808 x
abbrev r02_Get_h1 : U := (.cons (.int .u64) (.cons cI (.cons cI (.cons cHdr .nil))))
abbrev r02_Get_o1 : U := (.cons (.int .u64) (.cons cI (.cons cHdr .nil)))
abbrev r02_Get_e1 : U := (.cons .bool (.cons cHdr .nil))
def r02_Get_s1r (v0 : Int) (v4 : Int) (v5 : Int) (c0 : Hdr) : Option (SRes r02_Get_h1 r02_Get_o1 r02_Get_e1) :=
 bif decide (v5 < 16) then
  (r02_Get_l0 (v0, v4, v5, 0, c0, ())).bind fun s3 => match s3 with
  | .out s3 =>
   some (.next (s3.1, s3.2.1, wi64 (s3.2.2.1 + 1), s3.2.2.2.1, ()))
  | .ret s3 =>
   some (.fin (.ret (s3.1, s3.2.1, ())))
 else
 some (.fin (.out (v0, v4, c0, ())))
def r02_Get_s1 (x : r02_Get_h1.T) : Option (SRes r02_Get_h1 r02_Get_o1 r02_Get_e1) := r02_Get_s1r x.1 x.2.1 x.2.2.1 x.2.2.2.1
def r02_Get_l1 (x : r02_Get_h1.T) : Option (LRes r02_Get_o1 r02_Get_e1) := iterL r02_Get_s1 9223372036854775808 x
abbrev r02_Get_h2 : U := (.cons (.int .u64) (.cons cI (.cons cHdr .nil)))
abbrev r02_Get_o2 : U := (.cons cHdr .nil)
abbrev r02_Get_e2 : U := (.cons .bool (.cons cHdr .nil))
def r02_Get_s2r (v0 : Int) (v4 : Int) (c0 : Hdr) : Option (SRes r02_Get_h2 r02_Get_o2 r02_Get_e2) :=
 bif decide (v4 < 4) then
  (r02_Get_l1 (v0, v4, 0, c0, ())).bind fun s4 => match s4 with
  | .out s4 =>
   some (.next (s4.1, wi64 (s4.2.1 + 1), s4.2.2.1, ()))
  | .ret s4 =>
   some (.fin (.ret (s4.1, s4.2.1, ())))
 else
 some (.fin (.out (c0, ())))
def r02_Get_s2 (x : r02_Get_h2.T) : Option (SRes r02_Get_h2 r02_Get_o2 r02_Get_e2) := r02_Get_s2r x.1 x.2.1 x.2.2.1
def r02_Get_l2 (x : r02_Get_h2.T) : Option (LRes r02_Get_o2 r02_Get_e2) := iterL r02_Get_s2 9223372036854775808 x
def r02_Get_r (a0 : Int) : Option (Hdr × Bool × Unit) :=
 bif a0 == 0 then
  some ((false, false, 0, 0, ()), true, ())
 else
 (r02_Get_l2 (a0, 0, (false, false, 0, 0, ()), ())).bind fun s5 => match s5 with
 | .out s5 =>
  some ((false, false, 0, 0, ()), false, ())
 | .ret s5 =>
  some (s5.2.1, s5.1, ())
def r02_Get (x : Int × Unit) : Option (Hdr × Bool × Unit) := r02_Get_r x.1
def r02_Get_sm : Sum := ⟨(.cons (.int .u64) .nil), (.cons (.d cHdr) (.cons (.d .bool) .nil)), r02_Get⟩
def r02_Get_L0 : LoopSum := { hc := ⟨[], [0, 2, 4, 5, 6], [], [], [0], [], 176⟩, h := ⟨[(0, (.d (.int .u64))), (2, (.pvar 0 [])), (4, (.d cI)), (5, (.d cI)), (6, (.d cI))], [(0, (.d cHdr))], [], 176⟩, xid := 4, oc := ⟨[], [0, 2, 4, 5], [], [], [0], [], 176⟩, o := ⟨[(0, (.d (.int .u64))), (2, (.pvar 0 [])), (4, (.d cI)), (5, (.d cI))], [(0, (.d cHdr))], [], 176⟩, rc := ⟨[], [2, 3], [], [], [0], [], 176⟩, r := ⟨[(2, (.pvar 0 [])), (3, (.d .bool))], [(0, (.d cHdr))], [], 176⟩, F := r02_Get_l0 }
def r02_Get_L1 : LoopSum := { hc := ⟨[], [0, 2, 4, 5], [], [], [0], [], 128⟩, h := ⟨[(0, (.d (.int .u64))), (2, (.pvar 0 [])), (4, (.d cI)), (5, (.d cI))], [(0, (.d cHdr))], [], 128⟩, xid := 2, oc := ⟨[], [0, 2, 4], [], [], [0], [], 128⟩, o := ⟨[(0, (.d (.int .u64))), (2, (.pvar 0 [])), (4, (.d cI))], [(0, (.d cHdr))], [], 128⟩, rc := ⟨[], [2, 3], [], [], [0], [], 128⟩, r := ⟨[(2, (.pvar 0 [])), (3, (.d .bool))], [(0, (.d cHdr))], [], 128⟩, F := r02_Get_l1 }
def r02_Get_L2 : LoopSum := { hc := ⟨[], [0, 2, 4], [], [], [0], [], 80⟩, h := ⟨[(0, (.d (.int .u64))), (2, (.pvar 0 [])), (4, (.d cI))], [(0, (.d cHdr))], [], 80⟩, xid := 0, oc := ⟨[], [2], [], [], [0], [], 80⟩, o := ⟨[(2, (.pvar 0 []))], [(0, (.d cHdr))], [], 80⟩, rc := ⟨[], [2, 3], [], [], [0], [], 80⟩, r := ⟨[(2, (.pvar 0 [])), (3, (.d .bool))], [(0, (.d cHdr))], [], 80⟩, F := r02_Get_l2 }
def r02_Get_c : Ctx := ⟨[(195, r02_Put_sm), (208, r02_May_sm)], [], [⟨8, 142, 0, 4, r02_Get_L0⟩, ⟨8, 142, 0, 2, r02_Get_L1⟩, ⟨8, 142, 0, 0, r02_Get_L2⟩]⟩
theorem r02_Get_sem : SemOf Tryz.prog 142 r02_Get_sm := semC (c := r02_Get_c) Tryz.func142 (sc r02_Put_sem (sc r02_May_sem an)) an (ec (aeC [true, true, false, true, false, false, true, false, false, true, false, false, true, false, false, true, false, false] r02_Get_s0 Tryz.func142) (ec (aeC [true, true, false, true, false, false, true, false, false, true, false, false] r02_Get_s1 Tryz.func142) (ec (aeC [true, true, false, true, false, false] r02_Get_s2 Tryz.func142) an))) 8
def r08_Get_r (a0 : Heap) (a1 : Int) : Option (Hdr × Bool × Unit) :=
 (r07_Find (a0, a1, ())).bind fun y1 =>
 bif !y1.2.2.1 then
  some ((false, false, 0, 0, ()), false, ())
 else
 bif decide (0 ≤ a1) then
  bif decide (a1 < (a0.1.length : Int)) then
   (r02_Get (a0.1.getD a1.toNat 0, ())).bind fun y2 =>
   bif !y2.2.1 then
    some ((false, false, 0, 0, ()), false, ())
   else
   bif !y2.1.1 then
    some ((false, false, 0, 0, ()), false, ())
   else
   bif decide ((wi64 (a1 + y2.1.2.2.2.1)) ≥ (wi64 ((wi64 (32 * (wi64 (a1.tdiv 32)))) + 32))) then
    some ((false, false, 0, 0, ()), false, ())
   else
   some (y2.1, true, ())
  else none
 else none
def r08_Get (x : Heap × Int × Unit) : Option (Hdr × Bool × Unit) := r08_Get_r x.1 x.2.1
def r08_Get_sm : Sum := ⟨(.cons cHeap (.cons cI .nil)), (.cons (.d cHdr) (.cons (.d .bool) .nil)), r08_Get⟩
def r08_Get_c : Ctx := ⟨[(141, r07_Find_sm), (142, r02_Get_sm)], [], []⟩
theorem r08_Get_sem : SemOf Tryz.prog 65 r08_Get_sm := semC (c := r08_Get_c) Tryz.func65 (sc r07_Find_sem (sc r02_Get_sem an)) an an 8
def r01_Get_r (a0 : Int) : Option (Val × Unit) :=
 bif a0 == 0 then
  some ((0, 0, ()), ())
 else
 bif (a0.tmod 2) == 1 then
  some ((1, wi64 (wu64 (a0.tdiv 2)), ()), ())
 else
 some ((2, wi64 (wu64 ((wu64 (a0.tdiv 2)) - 1)), ()), ())
def r01_Get (x : Int × Unit) : Option (Val × Unit) := r01_Get_r x.1
def r01_Get_sm : Sum := ⟨(.cons (.int .u64) .nil), (.cons (.cons (.d cI) (.cons (.d cI) .nil)) .nil), r01_Get⟩
def r01_Get_c : Ctx := ⟨[], [], []⟩
theorem r01_Get_sem : SemOf Tryz.prog 187 r01_Get_sm := semC (c := r01_Get_c) Tryz.func187 an an an 8
def r08_Field_r (a0 : Heap) (a1 : Int) (a2 : Int) : Option (Val × Int × Unit) :=
 (r08_Get (a0, a1, ())).bind fun y1 =>
 bif !y1.2.1 then
  some ((0, 0, ()), 1, ())
 else
 bif decide (a2 < 0) then
  some ((0, 0, ()), 4, ())
 else
 bif decide (a2 ≥ y1.1.2.2.2.1) then
  some ((0, 0, ()), 4, ())
 else
 bif decide (0 ≤ (wi64 ((wi64 (a1 + 1)) + a2))) then
  bif decide ((wi64 ((wi64 (a1 + 1)) + a2)) < (a0.1.length : Int)) then
   (r01_Get (a0.1.getD (wi64 ((wi64 (a1 + 1)) + a2)).toNat 0, ())).bind fun y2 =>
   some ((y2.1.1, y2.1.2.1, ()), 0, ())
  else none
 else none
def r08_Field (x : Heap × Val) : Option (Val × Int × Unit) := r08_Field_r x.1 x.2.1 x.2.2.1
def r08_Field_sm : Sum := ⟨(.cons cHeap cVal), (.cons (.cons (.d cI) (.cons (.d cI) .nil)) (.cons (.d cI) .nil)), r08_Field⟩
def r08_Field_c : Ctx := ⟨[(65, r08_Get_sm), (187, r01_Get_sm)], [], []⟩
theorem r08_Field_sem : SemOf Tryz.prog 109 r08_Field_sm := semC (c := r08_Field_c) Tryz.func109 (sc r08_Get_sem (sc r01_Get_sem an)) an an 8
def r19_Check_r (a0 : Heap) (a1 : List Val) (a2 : Int) (a3 : Int × Int × Val) : Option (Int × Unit) :=
 bif decide ((a1.length : Int) ≥ a2) then
  bif a3.1 == 0 then
   bif decide (a3.2.1 < 0) then
    some (1, ())
   else
   bif decide (a3.2.1 > 15) then
    some (1, ())
   else
   some (5, ())
  else
  bif a3.1 == 1 then
   (r14_Object (a1, a3.2.1, ())).bind fun y1 =>
   bif y1.2.1 != 0 then
    some (y1.2.1, ())
   else
   (r08_Field (a0, y1.1, a3.2.2.1, ())).bind fun y2 =>
   bif y2.2.1 != 0 then
    some (y2.2.1, ())
   else
   bif a3.1 == 1 then
    some (5, ())
   else
   (r14_Slot (a1, a3.2.2.2.1, ())).bind fun y3 =>
   some (y3.2.1, ())
  else
  bif a3.1 == 2 then
   (r14_Object (a1, a3.2.1, ())).bind fun y4 =>
   bif y4.2.1 != 0 then
    some (y4.2.1, ())
   else
   (r08_Field (a0, y4.1, a3.2.2.1, ())).bind fun y5 =>
   bif y5.2.1 != 0 then
    some (y5.2.1, ())
   else
   bif a3.1 == 1 then
    some (5, ())
   else
   (r14_Slot (a1, a3.2.2.2.1, ())).bind fun y6 =>
   some (y6.2.1, ())
  else
  bif a3.1 == 3 then
   (r14_Slot (a1, a3.2.1, ())).bind fun y7 =>
   bif y7.2.1 != 0 then
    some (y7.2.1, ())
   else
   some (5, ())
  else
  bif a3.1 == 4 then
   bif decide (a3.2.1 < 0) then
    some (1, ())
   else
   bif decide (a3.2.1 > 1099511627776) then
    some (1, ())
   else
   some (5, ())
  else
  bif a3.1 == 5 then
   bif (a1.length : Int) == 0 then
    some (3, ())
   else
   some (0, ())
  else
  bif a3.1 == 6 then
   some (0, ())
  else
  some (1, ())
 else
 bif a3.1 == 0 then
  bif decide (a3.2.1 < 0) then
   some (1, ())
  else
  bif decide (a3.2.1 > 15) then
   some (1, ())
  else
  some (0, ())
 else
 bif a3.1 == 1 then
  (r14_Object (a1, a3.2.1, ())).bind fun y8 =>
  bif y8.2.1 != 0 then
   some (y8.2.1, ())
  else
  (r08_Field (a0, y8.1, a3.2.2.1, ())).bind fun y9 =>
  bif y9.2.1 != 0 then
   some (y9.2.1, ())
  else
  bif a3.1 == 1 then
   some (0, ())
  else
  (r14_Slot (a1, a3.2.2.2.1, ())).bind fun y10 =>
  some (y10.2.1, ())
 else
 bif a3.1 == 2 then
  (r14_Object (a1, a3.2.1, ())).bind fun y11 =>
  bif y11.2.1 != 0 then
   some (y11.2.1, ())
  else
  (r08_Field (a0, y11.1, a3.2.2.1, ())).bind fun y12 =>
  bif y12.2.1 != 0 then
   some (y12.2.1, ())
  else
  bif a3.1 == 1 then
   some (0, ())
  else
  (r14_Slot (a1, a3.2.2.2.1, ())).bind fun y13 =>
  some (y13.2.1, ())
 else
 bif a3.1 == 3 then
  (r14_Slot (a1, a3.2.1, ())).bind fun y14 =>
  bif y14.2.1 != 0 then
   some (y14.2.1, ())
  else
  some (0, ())
 else
 bif a3.1 == 4 then
  bif decide (a3.2.1 < 0) then
   some (1, ())
  else
  bif decide (a3.2.1 > 1099511627776) then
   some (1, ())
  else
  some (0, ())
 else
 bif a3.1 == 5 then
  bif (a1.length : Int) == 0 then
   some (3, ())
  else
  some (0, ())
 else
 bif a3.1 == 6 then
  some (0, ())
 else
 some (1, ())
def r19_Check (x : Heap × (List Val) × Int × (Int × Int × Val) × Unit) : Option (Int × Unit) := r19_Check_r x.1 x.2.1 x.2.2.1 x.2.2.2.1
def r19_Check_sm : Sum := ⟨(.cons cHeap (.cons (.sl cVal) (.cons cI (.cons (.cons cI (.cons cI cVal)) .nil)))), (.cons (.d cI) .nil), r19_Check⟩
def r19_Check_c : Ctx := ⟨[(108, r14_Object_sm), (109, r08_Field_sm), (110, r14_Slot_sm)], [], []⟩
theorem r19_Check_sem : SemOf Tryz.prog 45 r19_Check_sm := semC (c := r19_Check_c) Tryz.func45 (sc r14_Object_sem (sc r08_Field_sem (sc r14_Slot_sem an))) an an 8
def r21_with_r (a0 : Wrld) (a1 : Int) (a2 : Mut) : Option (Wrld × Unit) :=
 (r18_Copied (a0.2.2.1, ())).bind fun y1 =>
 bif decide (0 ≤ a1) then
  bif decide (a1 < (y1.1.length : Int)) then
   some ((a0.1, a0.2.1, y1.1.set a1.toNat a2, a0.2.2.2), ())
  else none
 else none
def r21_with (x : Wrld × Int × Mut × Unit) : Option (Wrld × Unit) := r21_with_r x.1 x.2.1 x.2.2.1
def r21_with_sm : Sum := ⟨(.cons cWrld (.cons cI (.cons cMut .nil))), (.cons (.cons (.d cRep) (.cons (.d cHeap) (.cons (.own cMut) (.d (.cons cMarker (.cons cI (.cons .bool (.cons cI (.cons (.sl cRep) .nil))))))))) .nil), r21_with⟩
def r21_with_c : Ctx := ⟨[(35, r18_Copied_sm)], [], []⟩
theorem r21_with_sem : SemOf Tryz.prog 50 r21_with_sm := semC (c := r21_with_c) Tryz.func50 (sc r18_Copied_sem an) an an 8
def r21_done_r (a0 : Wrld) (a1 : Int) (a2 : List Val) (a3 : Int) (a4 : Val) : Option (Wrld × (Int × Int × Int × Val × Unit) × Unit) :=
 bif decide (0 ≤ a1) then
  bif decide (a1 < (a0.2.2.1.length : Int)) then
   (r21_with (a0, a1, (a2, 0, (0, 0, 0, 0, ()), 0, (0, 0, ()), (a0.2.2.1.getD a1.toNat ([], 0, (0, 0, 0, 0, ()), 0, (0, 0, ()), List.replicate 4 0, ())).2.2.2.2.2.1, ()), ())).bind fun y1 =>
   some ((y1.1.1, y1.1.2.1, y1.1.2.2.1, y1.1.2.2.2), (a1, 2, a3, a4, ()), ())
  else none
 else none
def r21_done (x : Wrld × Int × (List Val) × Int × Val × Unit) : Option (Wrld × (Int × Int × Int × Val × Unit) × Unit) := r21_done_r x.1 x.2.1 x.2.2.1 x.2.2.2.1 x.2.2.2.2.1
def r21_done_sm : Sum := ⟨(.cons cWrld (.cons cI (.cons (.sl cVal) (.cons cI (.cons cVal .nil))))), (.cons (.cons (.d cRep) (.cons (.d cHeap) (.cons (.own cMut) (.d (.cons cMarker (.cons cI (.cons .bool (.cons cI (.cons (.sl cRep) .nil))))))))) (.cons (.cons (.d cI) (.cons (.d cI) (.cons (.d cI) (.cons (.d cVal) .nil)))) .nil)), r21_done⟩
def r21_done_c : Ctx := ⟨[(50, r21_with_sm)], [], []⟩
theorem r21_done_sem : SemOf Tryz.prog 46 r21_done_sm := semC (c := r21_done_c) Tryz.func46 (sc r21_with_sem an) an an 8
abbrev r20_Caches_h0 : U := (.cons cI (.cons cWrld (.cons (.sl (.arr 4 cI)) .nil)))
abbrev r20_Caches_o0 : U := (.cons (.sl (.arr 4 cI)) .nil)
abbrev r20_Caches_e0 : U := .nil
def r20_Caches_s0r (v4 : Int) (c0 : Wrld) (r64 : List (List Int)) : Option (SRes r20_Caches_h0 r20_Caches_o0 r20_Caches_e0) :=
 bif decide (v4 < (c0.2.2.1.length : Int)) then
  bif decide (0 ≤ v4) then
   bif decide (v4 < (c0.2.2.1.length : Int)) then
    bif decide ((r64.length + 1) * 32 ≤ 140737488355328) then
     some (.next (wi64 (v4 + 1), c0, r64 ++ [(c0.2.2.1.getD v4.toNat ([], 0, (0, 0, 0, 0, ()), 0, (0, 0, ()), List.replicate 4 0, ())).2.2.2.2.2.1], ()))
    else none
   else none
  else none
 else
 some (.fin (.out (r64, ())))
def r20_Caches_s0 (x : r20_Caches_h0.T) : Option (SRes r20_Caches_h0 r20_Caches_o0 r20_Caches_e0) := r20_Caches_s0r x.1 x.2.1 x.2.2.1
def r20_Caches_l0 (x : r20_Caches_h0.T) : Option (LRes r20_Caches_o0 r20_Caches_e0) := iterL r20_Caches_s0 9223372036854775808 x
def r20_Caches_r (a0 : Wrld) : Option ((List (List Int)) × Unit) :=
 (r20_Caches_l0 (0, a0, [], ())).bind fun s1 => match s1 with
 | .out s1 =>
  some (s1.1, ())
 | .ret s1 =>
  none
def r20_Caches (x : Wrld × Unit) : Option ((List (List Int)) × Unit) := r20_Caches_r x.1
def r20_Caches_sm : Sum := ⟨(.cons cWrld .nil), (.cons (.own (.arr 4 cI)) .nil), r20_Caches⟩
def r20_Caches_L0 : LoopSum := { hc := ⟨[], [1, 3, 4], [(.tmp 3, (.arr 4 cI))], [], [0], [], 64⟩, h := ⟨[(1, (.pvar 0 [])), (3, (.row 64)), (4, (.d cI))], [(0, (.d cWrld))], [(64, (.arr 4 cI), true)], 65⟩, xid := 0, oc := ⟨[], [3], [(.tmp 3, (.arr 4 cI))], [], [], [], 64⟩, o := ⟨[(3, (.row 64))], [], [(64, (.arr 4 cI), true)], 65⟩, rc := ⟨[], [], [], [], [64], [], 64⟩, r := ⟨[], [], [], 64⟩, F := r20_Caches_l0 }
def r20_Caches_c : Ctx := ⟨[], [], [⟨8, 49, 0, 0, r20_Caches_L0⟩]⟩
theorem r20_Caches_sem : SemOf Tryz.prog 49 r20_Caches_sm := semC (c := r20_Caches_c) Tryz.func49 an an (ec (aeC [true, true, false, true, false, false] r20_Caches_s0 Tryz.func49) an) 8
end
end Go.Proofs.YtkjpakaidjpjgaaGreatDoor.Den
