/- What functions come to. Printed by a program of this session. -/
import Derived.Test.YtkjpakaidjpjgaaGreatDoorDenFw
namespace Go.Proofs.YtkjpakaidjpjgaaGreatDoor.Den
open Go
set_option maxRecDepth 100000
set_option linter.unusedVariables false
noncomputable section
abbrev r18_Copied_h0 : U := (.cons (.sl cMut) (.cons cI (.cons (.sl cMut) .nil)))
abbrev r18_Copied_o0 : U := (.cons (.sl cMut) .nil)
abbrev r18_Copied_e0 : U := .nil
def r18_Copied_s0r (v0 : List Mut) (v4 : Int) (r48 : List Mut) : Option (SRes r18_Copied_h0 r18_Copied_o0 r18_Copied_e0) :=
 bif decide (v4 < (v0.length : Int)) then
  bif decide (0 ≤ v4) then
   bif decide (v4 < (v0.length : Int)) then
    bif decide (0 ≤ v4) then
     bif decide (v4 < (v0.length : Int)) then
      bif decide ((0 + (v0.getD v4.toNat ([], 0, (0, 0, 0, 0, ()), 0, (0, 0, ()), List.replicate 4 0, ())).1.length) * 16 ≤ 140737488355328) then
       bif decide ((r48.length + 1) * 120 ≤ 140737488355328) then
        some (.next (v0, wi64 (v4 + 1), r48 ++ [((v0.getD v4.toNat ([], 0, (0, 0, 0, 0, ()), 0, (0, 0, ()), List.replicate 4 0, ())).1, (v0.getD v4.toNat ([], 0, (0, 0, 0, 0, ()), 0, (0, 0, ()), List.replicate 4 0, ())).2)], ()))
       else none
      else none
     else none
    else none
   else none
  else none
 else
 some (.fin (.out (r48, ())))
def r18_Copied_s0 (x : r18_Copied_h0.T) : Option (SRes r18_Copied_h0 r18_Copied_o0 r18_Copied_e0) := r18_Copied_s0r x.1 x.2.1 x.2.2.1
def r18_Copied_l0 (x : r18_Copied_h0.T) : Option (LRes r18_Copied_o0 r18_Copied_e0) := iterL r18_Copied_s0 9223372036854775808 x
def r18_Copied_r (a0 : List Mut) : Option ((List Mut) × Unit) :=
 (r18_Copied_l0 (a0, 0, [], ())).bind fun s1 => match s1 with
 | .out s1 =>
  some (s1.1, ())
 | .ret s1 =>
  none
def r18_Copied (x : (List Mut) × Unit) : Option ((List Mut) × Unit) := r18_Copied_r x.1
def r18_Copied_sm : Sum := ⟨(.cons (.sl cMut) .nil), (.cons (.own cMut) .nil), r18_Copied⟩
def r18_Copied_L0 : LoopSum := { hc := ⟨[], [0, 3, 4], [(.tmp 3, cMut)], [], [], [], 48⟩, h := ⟨[(0, (.d (.sl cMut))), (3, (.row 48)), (4, (.d cI))], [], [(48, cMut, true)], 49⟩, xid := 0, oc := ⟨[], [3], [(.tmp 3, cMut)], [], [], [], 48⟩, o := ⟨[(3, (.row 48))], [], [(48, cMut, true)], 49⟩, rc := ⟨[], [], [], [], [48], [], 48⟩, r := ⟨[], [], [], 48⟩, F := r18_Copied_l0 }
def r18_Copied_c : Ctx := ⟨[], [], [⟨8, 35, 0, 0, r18_Copied_L0⟩]⟩
theorem r18_Copied_sem : SemOf Tryz.prog 35 r18_Copied_sm := semC (c := r18_Copied_c) Tryz.func35 an an (ec (aeC [true, true, false, true, false, false] r18_Copied_s0 Tryz.func35) an) 8
abbrev r20_Copied_h0 : U := (.cons cI (.cons cWrld (.cons cRep (.cons (.cons .bool .nil) (.cons cI (.cons .nil (.cons (.cons cI (.cons cI (.cons cI (.cons .bool .nil)))) (.cons cI (.cons .bool (.cons cI (.cons .nil (.cons cRep (.cons (.cons .bool .nil) (.cons cI (.cons .nil (.cons (.cons cI (.cons cI (.cons cI (.cons .bool .nil)))) (.cons cI (.cons .bool (.cons cI (.cons .nil (.cons (.sl (.int .u64)) (.cons (.sl cSpan) (.cons (.sl cMut) (.cons (.sl cRep) (.cons (.sl cVal) (.cons (.sl cI) (.cons (.sl cGrey) .nil)))))))))))))))))))))))))))
abbrev r20_Copied_o0 : U := (.cons cRep (.cons (.cons .bool .nil) (.cons cI (.cons .nil (.cons (.cons cI (.cons cI (.cons cI (.cons .bool .nil)))) (.cons cI (.cons .bool (.cons cI (.cons .nil (.cons cRep (.cons (.cons .bool .nil) (.cons cI (.cons .nil (.cons (.cons cI (.cons cI (.cons cI (.cons .bool .nil)))) (.cons cI (.cons .bool (.cons cI (.cons .nil (.cons (.sl (.int .u64)) (.cons (.sl cSpan) (.cons (.sl cMut) (.cons (.sl cRep) (.cons (.sl cVal) (.cons (.sl cI) (.cons (.sl cGrey) .nil)))))))))))))))))))))))))
abbrev r20_Copied_e0 : U := .nil
def r20_Copied_s0r (v4 : Int) (c0 : Wrld) (c16_0 : Rep) (c16_1 : Bool × Unit) (c16_2 : Int) (c16_3 : Unit) (c16_4 : Int × Int × Int × Bool × Unit) (c16_5 : Int) (c16_6 : Bool) (c16_7 : Int) (c16_8 : Unit) (c48_0 : Rep) (c48_1 : Bool × Unit) (c48_2 : Int) (c48_3 : Unit) (c48_4 : Int × Int × Int × Bool × Unit) (c48_5 : Int) (c48_6 : Bool) (c48_7 : Int) (c48_8 : Unit) (r144 : List Int) (r272 : List Span) (r368 : List Mut) (r464 : List Rep) (r576 : List Val) (r720 : List Int) (r864 : List Grey) : Option (SRes r20_Copied_h0 r20_Copied_o0 r20_Copied_e0) :=
 bif decide (v4 < (c0.2.2.2.1.2.1.length : Int)) then
  bif decide (0 ≤ v4) then
   bif decide (v4 < (c0.2.2.2.1.2.1.length : Int)) then
    bif decide (0 ≤ v4) then
     bif decide (v4 < (c0.2.2.2.1.2.1.length : Int)) then
      bif decide ((0 + (c0.2.2.2.1.2.1.getD v4.toNat (0, [], ())).2.1.length) * 8 ≤ 140737488355328) then
       bif decide ((r864.length + 1) * 32 ≤ 140737488355328) then
        some (.next (wi64 (v4 + 1), c0, c16_0, c16_1, c16_2, c16_3, c16_4, c16_5, c16_6, c16_7, c16_8, c48_0, c48_1, c48_2, c48_3, c48_4, c48_5, c48_6, c48_7, c48_8, r144, r272, r368, r464, r576, r720, r864 ++ [((c0.2.2.2.1.2.1.getD v4.toNat (0, [], ())).1, (c0.2.2.2.1.2.1.getD v4.toNat (0, [], ())).2.1, ())], ()))
       else none
      else none
     else none
    else none
   else none
  else none
 else
 some (.fin (.out (c16_0, c16_1, c16_2, c16_3, c16_4, c16_5, c16_6, c16_7, c16_8, c48_0, c48_1, c48_2, c48_3, c48_4, c48_5, c48_6, c48_7, c48_8, r144, r272, r368, r464, r576, r720, r864, ())))
def r20_Copied_s0 (x : r20_Copied_h0.T) : Option (SRes r20_Copied_h0 r20_Copied_o0 r20_Copied_e0) := r20_Copied_s0r x.1 x.2.1 x.2.2.1 x.2.2.2.1 x.2.2.2.2.1 x.2.2.2.2.2.1 x.2.2.2.2.2.2.1 x.2.2.2.2.2.2.2.1 x.2.2.2.2.2.2.2.2.1 x.2.2.2.2.2.2.2.2.2.1 x.2.2.2.2.2.2.2.2.2.2.1 x.2.2.2.2.2.2.2.2.2.2.2.1 x.2.2.2.2.2.2.2.2.2.2.2.2.1 x.2.2.2.2.2.2.2.2.2.2.2.2.2.1 x.2.2.2.2.2.2.2.2.2.2.2.2.2.2.1 x.2.2.2.2.2.2.2.2.2.2.2.2.2.2.2.1 x.2.2.2.2.2.2.2.2.2.2.2.2.2.2.2.2.1 x.2.2.2.2.2.2.2.2.2.2.2.2.2.2.2.2.2.1 x.2.2.2.2.2.2.2.2.2.2.2.2.2.2.2.2.2.2.1 x.2.2.2.2.2.2.2.2.2.2.2.2.2.2.2.2.2.2.2.1 x.2.2.2.2.2.2.2.2.2.2.2.2.2.2.2.2.2.2.2.2.1 x.2.2.2.2.2.2.2.2.2.2.2.2.2.2.2.2.2.2.2.2.2.1 x.2.2.2.2.2.2.2.2.2.2.2.2.2.2.2.2.2.2.2.2.2.2.1 x.2.2.2.2.2.2.2.2.2.2.2.2.2.2.2.2.2.2.2.2.2.2.2.1 x.2.2.2.2.2.2.2.2.2.2.2.2.2.2.2.2.2.2.2.2.2.2.2.2.1 x.2.2.2.2.2.2.2.2.2.2.2.2.2.2.2.2.2.2.2.2.2.2.2.2.2.1 x.2.2.2.2.2.2.2.2.2.2.2.2.2.2.2.2.2.2.2.2.2.2.2.2.2.2.1
def r20_Copied_l0 (x : r20_Copied_h0.T) : Option (LRes r20_Copied_o0 r20_Copied_e0) := iterL r20_Copied_s0 9223372036854775808 x
def r20_Copied_r (a0 : Wrld) : Option (Wrld × Unit) :=
 bif decide ((0 + a0.2.1.1.length) * 8 ≤ 140737488355328) then
  bif decide ((0 + a0.2.1.2.1.length) * 24 ≤ 140737488355328) then
   (r18_Copied (a0.2.2.1, ())).bind fun y1 =>
   bif decide ((0 + a0.2.2.2.2.2.2.2.1.length) * 40 ≤ 140737488355328) then
    bif decide ((0 + a0.2.2.2.1.2.2.1.length) * 16 ≤ 140737488355328) then
     bif decide ((0 + a0.2.2.2.1.1.2.1.length) * 8 ≤ 140737488355328) then
      (r20_Copied_l0 (0, a0, (0, 0, 0, 0, 0, ()), (false, ()), 0, (), (0, 0, 0, false, ()), 0, false, 0, (), a0.1, a0.2.1.2.2, a0.2.2.2.1.1.1, a0.2.2.2.1.1.2.2, a0.2.2.2.1.2.2.2, a0.2.2.2.2.1, a0.2.2.2.2.2.1, a0.2.2.2.2.2.2.1, a0.2.2.2.2.2.2.2.2, a0.2.1.1, a0.2.1.2.1, y1.1, a0.2.2.2.2.2.2.2.1, a0.2.2.2.1.2.2.1, a0.2.2.2.1.1.2.1, [], ())).bind fun s2 => match s2 with
      | .out s2 =>
       some ((s2.2.2.2.2.2.2.2.2.2.1, (s2.2.2.2.2.2.2.2.2.2.2.2.2.2.2.2.2.2.2.1, s2.2.2.2.2.2.2.2.2.2.2.2.2.2.2.2.2.2.2.2.1, s2.2.2.2.2.2.2.2.2.2.2.1), s2.2.2.2.2.2.2.2.2.2.2.2.2.2.2.2.2.2.2.2.2.1, ((s2.2.2.2.2.2.2.2.2.2.2.2.1, s2.2.2.2.2.2.2.2.2.2.2.2.2.2.2.2.2.2.2.2.2.2.2.2.1, s2.2.2.2.2.2.2.2.2.2.2.2.2.1), s2.2.2.2.2.2.2.2.2.2.2.2.2.2.2.2.2.2.2.2.2.2.2.2.2.1, s2.2.2.2.2.2.2.2.2.2.2.2.2.2.2.2.2.2.2.2.2.2.2.1, s2.2.2.2.2.2.2.2.2.2.2.2.2.2.1), s2.2.2.2.2.2.2.2.2.2.2.2.2.2.2.1, s2.2.2.2.2.2.2.2.2.2.2.2.2.2.2.2.1, s2.2.2.2.2.2.2.2.2.2.2.2.2.2.2.2.2.1, s2.2.2.2.2.2.2.2.2.2.2.2.2.2.2.2.2.2.2.2.2.2.1, s2.2.2.2.2.2.2.2.2.2.2.2.2.2.2.2.2.2.1), ())
      | .ret s2 =>
       none
     else none
    else none
   else none
  else none
 else none
def r20_Copied (x : Wrld × Unit) : Option (Wrld × Unit) := r20_Copied_r x.1
def r20_Copied_sm : Sum := ⟨(.cons cWrld .nil), (.cons (.cons (.d cRep) (.cons (.cons (.own (.int .u64)) (.cons (.own cSpan) (.d (.cons .bool .nil)))) (.cons (.own cMut) (.cons (.cons (.cons (.d cI) (.cons (.own cI) (.d .nil))) (.cons (.own cGrey) (.cons (.own cVal) (.d (.cons cI (.cons cI (.cons cI (.cons .bool .nil)))))))) (.cons (.d cI) (.cons (.d .bool) (.cons (.d cI) (.cons (.own cRep) (.d .nil))))))))) .nil), r20_Copied⟩
def r20_Copied_L0 : LoopSum := { hc := ⟨[], [1, 2, 3, 4], [(.key 48 [.fld 3, .fld 1], cGrey)], [], [0, 16, 48], [144, 272, 368, 464, 576, 720], 864⟩, h := ⟨[(1, (.pvar 0 [])), (2, (.pvar 16 [])), (3, (.pvar 48 [])), (4, (.d cI))], [(0, (.d cWrld)), (16, (.cons (.d cRep) (.cons (.cons .nilsl (.cons .nilsl (.d (.cons .bool .nil)))) (.cons .nilsl (.cons (.cons (.cons (.d cI) (.cons .nilsl (.d .nil))) (.cons .nilsl (.cons .nilsl (.d (.cons cI (.cons cI (.cons cI (.cons .bool .nil)))))))) (.cons (.d cI) (.cons (.d .bool) (.cons (.d cI) (.cons .nilsl (.d .nil)))))))))), (48, (.cons (.d cRep) (.cons (.cons (.row 144) (.cons (.row 272) (.d (.cons .bool .nil)))) (.cons (.row 368) (.cons (.cons (.cons (.d cI) (.cons (.row 720) (.d .nil))) (.cons (.row 864) (.cons (.row 576) (.d (.cons cI (.cons cI (.cons cI (.cons .bool .nil)))))))) (.cons (.d cI) (.cons (.d .bool) (.cons (.d cI) (.cons (.row 464) (.d .nil))))))))))], [(144, (.int .u64), true), (272, cSpan, true), (368, cMut, true), (464, cRep, true), (576, cVal, true), (720, cI, true), (864, cGrey, true)], 865⟩, xid := 0, oc := ⟨[], [2, 3], [(.ptr 3 [.fld 3, .fld 1], cGrey)], [], [16, 48], [144, 272, 368, 464, 576, 720], 864⟩, o := ⟨[(2, (.pvar 16 [])), (3, (.pvar 48 []))], [(16, (.cons (.d cRep) (.cons (.cons .nilsl (.cons .nilsl (.d (.cons .bool .nil)))) (.cons .nilsl (.cons (.cons (.cons (.d cI) (.cons .nilsl (.d .nil))) (.cons .nilsl (.cons .nilsl (.d (.cons cI (.cons cI (.cons cI (.cons .bool .nil)))))))) (.cons (.d cI) (.cons (.d .bool) (.cons (.d cI) (.cons .nilsl (.d .nil)))))))))), (48, (.cons (.d cRep) (.cons (.cons (.row 144) (.cons (.row 272) (.d (.cons .bool .nil)))) (.cons (.row 368) (.cons (.cons (.cons (.d cI) (.cons (.row 720) (.d .nil))) (.cons (.row 864) (.cons (.row 576) (.d (.cons cI (.cons cI (.cons cI (.cons .bool .nil)))))))) (.cons (.d cI) (.cons (.d .bool) (.cons (.d cI) (.cons (.row 464) (.d .nil))))))))))], [(144, (.int .u64), true), (272, cSpan, true), (368, cMut, true), (464, cRep, true), (576, cVal, true), (720, cI, true), (864, cGrey, true)], 865⟩, rc := ⟨[], [], [], [], [864], [], 864⟩, r := ⟨[], [], [], 864⟩, F := r20_Copied_l0 }
def r20_Copied_c : Ctx := ⟨[(35, r18_Copied_sm)], [], [⟨8, 12, 0, 0, r20_Copied_L0⟩]⟩
theorem r20_Copied_sem : SemOf Tryz.prog 12 r20_Copied_sm := semC (c := r20_Copied_c) Tryz.func12 (sc r18_Copied_sem an) an (ec (aeC [true, true, true, true, true, true, true, true, true, false, true, false, false] r20_Copied_s0 Tryz.func12) an) 8
def cycle_within_r (a0 : Int) (a1 : Int) (a2 : Int) : Option (Bool × Unit) :=
 bif decide (a0 ≥ a1) then
  some (decide (a0 ≤ a2), ())
 else
 some (false, ())
def cycle_within (x : Int × Val) : Option (Bool × Unit) := cycle_within_r x.1 x.2.1 x.2.2.1
def cycle_within_sm : Sum := ⟨(.cons cI cVal), (.cons (.d .bool) .nil), cycle_within⟩
def cycle_within_c : Ctx := ⟨[], [], []⟩
theorem cycle_within_sem : SemOf Tryz.prog 144 cycle_within_sm := semC (c := cycle_within_c) Tryz.func144 an an an 8
def cycle_May_r (a0 : Rep) : Option (Bool × Unit) :=
 (cycle_within (a0.1, 1, 16, ())).bind fun y1 =>
 bif y1.1 then
  (cycle_within (a0.2.1, 1, 8, ())).bind fun y2 =>
  bif y2.1 then
   (cycle_within (a0.2.2.1, 1, 8, ())).bind fun y3 =>
   bif y3.1 then
    (cycle_within (a0.2.2.2.1, 0, 16, ())).bind fun y4 =>
    bif y4.1 then
     (cycle_within (a0.2.2.2.2.1, 0, 8, ())).bind fun y5 =>
     some (y5.1, ())
    else
    some (false, ())
   else
   some (false, ())
  else
  some (false, ())
 else
 some (false, ())
def cycle_May (x : Rep × Unit) : Option (Bool × Unit) := cycle_May_r x.1
def cycle_May_sm : Sum := ⟨(.cons cRep .nil), (.cons (.d .bool) .nil), cycle_May⟩
def cycle_May_c : Ctx := ⟨[(144, cycle_within_sm)], [], []⟩
theorem cycle_May_sem : SemOf Tryz.prog 74 cycle_May_sm := semC (c := cycle_May_c) Tryz.func74 (sc cycle_within_sem an) an an 8
abbrev cycle_Caches_h0 : U := (.cons (.sl cMut) (.cons cI (.cons cI (.cons (.sl (.arr 4 cI)) .nil))))
abbrev cycle_Caches_o0 : U := (.cons (.sl (.arr 4 cI)) .nil)
abbrev cycle_Caches_e0 : U := .nil
def cycle_Caches_s0r (v7 : List Mut) (v8 : Int) (v9 : Int) (r112 : List (List Int)) : Option (SRes cycle_Caches_h0 cycle_Caches_o0 cycle_Caches_e0) :=
 bif decide (v9 < v8) then
  bif decide (0 ≤ v9) then
   bif decide (v9 < (v7.length : Int)) then
    bif decide ((r112.length + 1) * 32 ≤ 140737488355328) then
     some (.next (v7, v8, wi64 (v9 + 1), r112 ++ [(v7.getD v9.toNat ([], 0, (0, 0, 0, 0, ()), 0, (0, 0, ()), List.replicate 4 0, ())).2.2.2.2.2.1], ()))
    else none
   else none
  else none
 else
 some (.fin (.out (r112, ())))
def cycle_Caches_s0 (x : cycle_Caches_h0.T) : Option (SRes cycle_Caches_h0 cycle_Caches_o0 cycle_Caches_e0) := cycle_Caches_s0r x.1 x.2.1 x.2.2.1 x.2.2.2.1
def cycle_Caches_l0 (x : cycle_Caches_h0.T) : Option (LRes cycle_Caches_o0 cycle_Caches_e0) := iterL cycle_Caches_s0 9223372036854775808 x
def cycle_Caches_r (a0 : Wrld) : Option ((List (List Int)) × Unit) :=
 (cycle_Caches_l0 (a0.2.2.1, (a0.2.2.1.length : Int), 0, [], ())).bind fun s1 => match s1 with
 | .out s1 =>
  some (s1.1, ())
 | .ret s1 =>
  none
def cycle_Caches (x : Wrld × Unit) : Option ((List (List Int)) × Unit) := cycle_Caches_r x.1
def cycle_Caches_sm : Sum := ⟨(.cons cWrld .nil), (.cons (.own (.arr 4 cI)) .nil), cycle_Caches⟩
def cycle_Caches_L0 : LoopSum := { hc := ⟨[], [3, 7, 8, 9], [(.tmp 3, (.arr 4 cI))], [], [], [], 112⟩, h := ⟨[(3, (.row 112)), (7, (.d (.sl cMut))), (8, (.d cI)), (9, (.d cI))], [], [(112, (.arr 4 cI), true)], 113⟩, xid := 0, oc := ⟨[], [3], [(.tmp 3, (.arr 4 cI))], [], [], [], 112⟩, o := ⟨[(3, (.row 112))], [], [(112, (.arr 4 cI), true)], 113⟩, rc := ⟨[], [], [], [], [112], [], 112⟩, r := ⟨[], [], [], 112⟩, F := cycle_Caches_l0 }
def cycle_Caches_c : Ctx := ⟨[], [], [⟨8, 75, 0, 0, cycle_Caches_L0⟩]⟩
theorem cycle_Caches_sem : SemOf Tryz.prog 75 cycle_Caches_sm := semC (c := cycle_Caches_c) Tryz.func75 an an (ec (aeC [true, true, false, true, false, false] cycle_Caches_s0 Tryz.func75) an) 8
def class_is_r (a0 : Int) : Option (Bool × Unit) :=
 bif decide (a0 ≥ 0) then
  some (decide (a0 < 4), ())
 else
 some (false, ())
def class_is (x : Int × Unit) : Option (Bool × Unit) := class_is_r x.1
def class_is_sm : Sum := ⟨(.cons cI .nil), (.cons (.d .bool) .nil), class_is⟩
def class_is_c : Ctx := ⟨[], [], []⟩
theorem class_is_sem : SemOf Tryz.prog 222 class_is_sm := semC (c := class_is_c) Tryz.func222 an an an 8
def class_Blocks_r (a0 : Int) : Option (Int × Unit) :=
 (class_is (a0, ())).bind fun y1 =>
 bif !y1.1 then
  some (0, ())
 else
 bif decide (0 ≤ a0) then
  bif decide (a0 < 4) then
   bif (([2, 4, 8, 16] : List Int).getD a0.toNat 0) == 0 then none else
   some (wi64 ((32 : Int).tdiv (([2, 4, 8, 16] : List Int).getD a0.toNat 0)), ())
  else none
 else none
def class_Blocks (x : Int × Unit) : Option (Int × Unit) := class_Blocks_r x.1
def class_Blocks_sm : Sum := ⟨(.cons cI .nil), (.cons (.d cI) .nil), class_Blocks⟩
def class_Blocks_c : Ctx := ⟨[(222, class_is_sm)], [], []⟩
theorem class_Blocks_sem : SemOf Tryz.prog 164 class_Blocks_sm := semC (c := class_Blocks_c) Tryz.func164 (sc class_is_sem an) an an 8
def span_inUse_r (a0 : Span) : Option (Bool × Unit) :=
 bif a0.1 == 1 then
  some (true, ())
 else
 some (a0.1 == 2, ())
def span_inUse (x : Span × Unit) : Option (Bool × Unit) := span_inUse_r x.1
def span_inUse_sm : Sum := ⟨(.cons cSpan .nil), (.cons (.d .bool) .nil), span_inUse⟩
def span_inUse_c : Ctx := ⟨[], [], []⟩
theorem span_inUse_sem : SemOf Tryz.prog 220 span_inUse_sm := semC (c := span_inUse_c) Tryz.func220 an an an 8
def bits_one_r (a0 : Int) : Option (Int × Unit) :=
 bif decide (a0 < 0) then
  some (0, ())
 else
 bif decide (a0 ≥ 32) then
  some (0, ())
 else
 bif decide (a0 < 0) then none else
 some (shiftI true .u32 1 a0, ())
def bits_one (x : Int × Unit) : Option (Int × Unit) := bits_one_r x.1
def bits_one_sm : Sum := ⟨(.cons cI .nil), (.cons (.d (.int .u32)) .nil), bits_one⟩
def bits_one_c : Ctx := ⟨[], [], []⟩
theorem bits_one_sem : SemOf Tryz.prog 332 bits_one_sm := semC (c := bits_one_c) Tryz.func332 an an an 8
def bits_Whole_r (a0 : Int) : Option (Int × Unit) :=
 bif decide (a0 ≥ 32) then
  some (4294967295, ())
 else
 (bits_one (bif decide (a0 < 0) then 0 else a0, ())).bind fun y1 =>
 some (wu32 (y1.1 - 1), ())
def bits_Whole (x : Int × Unit) : Option (Int × Unit) := bits_Whole_r x.1
def bits_Whole_sm : Sum := ⟨(.cons cI .nil), (.cons (.d (.int .u32)) .nil), bits_Whole⟩
def bits_Whole_c : Ctx := ⟨[(332, bits_one_sm)], [], []⟩
theorem bits_Whole_sem : SemOf Tryz.prog 289 bits_Whole_sm := semC (c := bits_Whole_c) Tryz.func289 (sc bits_one_sem an) an an 8
def span_whole_r (a0 : Int) : Option (Int × Unit) :=
 (class_Blocks (a0, ())).bind fun y1 =>
 (bits_Whole (y1.1, ())).bind fun y2 =>
 some (y2.1, ())
def span_whole (x : Int × Unit) : Option (Int × Unit) := span_whole_r x.1
def span_whole_sm : Sum := ⟨(.cons cI .nil), (.cons (.d (.int .u32)) .nil), span_whole⟩
def span_whole_c : Ctx := ⟨[(164, class_Blocks_sm), (289, bits_Whole_sm)], [], []⟩
theorem span_whole_sem : SemOf Tryz.prog 232 span_whole_sm := semC (c := span_whole_c) Tryz.func232 (sc class_Blocks_sem (sc bits_Whole_sem an)) an an 8
def span_Right_r (a0 : Span) : Option (Bool × Unit) :=
 bif a0.1 == 0 then
  some ((a0.1 == 0) && ((a0.2.1 == 0) && ((a0.2.2.1 == 0) && true)), ())
 else
 (span_inUse (a0, ())).bind fun y1 =>
 bif y1.1 then
  (class_Blocks (a0.2.1, ())).bind fun y2 =>
  bif decide (y2.1 > 0) then
   (span_whole (a0.2.1, ())).bind fun y3 =>
   some ((bitsI .andNot .u32 a0.2.2.1 y3.1) == 0, ())
  else
  some (false, ())
 else
 some (false, ())
def span_Right (x : Span × Unit) : Option (Bool × Unit) := span_Right_r x.1
def span_Right_sm : Sum := ⟨(.cons cSpan .nil), (.cons (.d .bool) .nil), span_Right⟩
def span_Right_c : Ctx := ⟨[(164, class_Blocks_sm), (220, span_inUse_sm), (232, span_whole_sm)], [], []⟩
theorem span_Right_sem : SemOf Tryz.prog 211 span_Right_sm := semC (c := span_Right_c) Tryz.func211 (sc class_Blocks_sem (sc span_inUse_sem (sc span_whole_sem an))) an an 8
def heap_Form_1_r (a0 : Span) : Option (Bool × Unit) :=
 (span_Right (a0, ())).bind fun y1 =>
 some (!y1.1, ())
def heap_Form_1 (x : Span × Unit) : Option (Bool × Unit) := heap_Form_1_r x.1
def heap_Form_1_sm : Sum := ⟨(.cons cSpan .nil), (.cons (.d .bool) .nil), heap_Form_1⟩
def heap_Form_1_c : Ctx := ⟨[(211, span_Right_sm)], [], []⟩
theorem heap_Form_1_sem : SemOf Tryz.prog 210 heap_Form_1_sm := semC (c := heap_Form_1_c) Tryz.func210 (sc span_Right_sem an) an an 8
abbrev heap_Form_h0 : U := (.cons (.sl cSpan) (.cons cI (.cons cI (.cons cHeap .nil))))
abbrev heap_Form_o0 : U := (.cons cHeap .nil)
abbrev heap_Form_e0 : U := (.cons cI (.cons cHeap .nil))
def heap_Form_s0r (v0 : List Span) (v7 : Int) (v8 : Int) (c0 : Heap) : Option (SRes heap_Form_h0 heap_Form_o0 heap_Form_e0) :=
 bif decide (v8 < v7) then
  bif decide (0 ≤ v8) then
   bif decide (v8 < (v0.length : Int)) then
    (heap_Form_1 (v0.getD v8.toNat (0, 0, 0, ()), ())).bind fun y1 =>
    bif y1.1 then
     some (.fin (.ret (v8, c0, ())))
    else
    some (.next (v0, v7, wi64 (v8 + 1), c0, ()))
   else none
  else none
 else
 some (.fin (.out (c0, ())))
def heap_Form_s0 (x : heap_Form_h0.T) : Option (SRes heap_Form_h0 heap_Form_o0 heap_Form_e0) := heap_Form_s0r x.1 x.2.1 x.2.2.1 x.2.2.2.1
def heap_Form_l0 (x : heap_Form_h0.T) : Option (LRes heap_Form_o0 heap_Form_e0) := iterL heap_Form_s0 9223372036854775808 x
def heap_Form_r (a0 : Heap) : Option (Bool × Unit) :=
 (heap_Form_l0 (a0.2.1, (a0.2.1.length : Int), 0, a0, ())).bind fun s2 => match s2 with
 | .out s2 =>
  bif decide ((s2.1.2.1.length : Int) ≥ 1) then
   bif decide ((s2.1.2.1.length : Int) ≤ 16) then
    some ((s2.1.1.length : Int) == (wi64 (32 * (s2.1.2.1.length : Int))), ())
   else
   some (false, ())
  else
  some (false, ())
 | .ret s2 =>
  bif !(decide (s2.1 ≥ 0)) then
   bif decide ((s2.2.1.2.1.length : Int) ≥ 1) then
    bif decide ((s2.2.1.2.1.length : Int) ≤ 16) then
     some ((s2.2.1.1.length : Int) == (wi64 (32 * (s2.2.1.2.1.length : Int))), ())
    else
    some (false, ())
   else
   some (false, ())
  else
  some (false, ())
def heap_Form (x : Heap × Unit) : Option (Bool × Unit) := heap_Form_r x.1
def heap_Form_sm : Sum := ⟨(.cons cHeap .nil), (.cons (.d .bool) .nil), heap_Form⟩
def heap_Form_L0 : LoopSum := { hc := ⟨[], [0, 1, 7, 8], [], [], [0], [], 256⟩, h := ⟨[(0, (.d (.sl cSpan))), (1, (.fn 210 .nil .nil)), (7, (.d cI)), (8, (.d cI))], [(0, (.d cHeap))], [], 256⟩, xid := 0, oc := ⟨[], [], [], [], [0], [], 256⟩, o := ⟨[], [(0, (.d cHeap))], [], 256⟩, rc := ⟨[], [4], [], [], [0], [], 256⟩, r := ⟨[(4, (.d cI))], [(0, (.d cHeap))], [], 256⟩, F := heap_Form_l0 }
def heap_Form_c : Ctx := ⟨[(210, heap_Form_1_sm)], [(160, Tryz.f160), (209, Tryz.f209)], [⟨6, 160, 192, 0, heap_Form_L0⟩]⟩
theorem heap_Form_sem : SemOf Tryz.prog 143 heap_Form_sm := semC (c := heap_Form_c) Tryz.func143 (sc heap_Form_1_sem an) (fc (flC Tryz.func160) (fc (flC Tryz.func209) an)) (ec (aeC [true, false, true, false, false] heap_Form_s0 Tryz.func160) an) 8
abbrev slices_Index_h0 : U := (.cons (.sl cI) (.cons cI cVal))
abbrev slices_Index_o0 : U := .nil
abbrev slices_Index_e0 : U := (.cons cI .nil)
def slices_Index_s0r (v0 : List Int) (v1 : Int) (v7 : Int) (v8 : Int) : Option (SRes slices_Index_h0 slices_Index_o0 slices_Index_e0) :=
 bif decide (v8 < v7) then
  bif decide (0 ≤ v8) then
   bif decide (v8 < (v0.length : Int)) then
    bif v1 == (v0.getD v8.toNat 0) then
     some (.fin (.ret (v8, ())))
    else
    some (.next (v0, v1, v7, wi64 (v8 + 1), ()))
   else none
  else none
 else
 some (.fin (.out ()))
def slices_Index_s0 (x : slices_Index_h0.T) : Option (SRes slices_Index_h0 slices_Index_o0 slices_Index_e0) := slices_Index_s0r x.1 x.2.1 x.2.2.1 x.2.2.2.1
def slices_Index_l0 (x : slices_Index_h0.T) : Option (LRes slices_Index_o0 slices_Index_e0) := iterL slices_Index_s0 9223372036854775808 x
def slices_Index_r (a0 : List Int) (a1 : Int) : Option (Int × Unit) :=
 (slices_Index_l0 (a0, a1, (a0.length : Int), 0, ())).bind fun s1 => match s1 with
 | .out s1 =>
  some ((-1), ())
 | .ret s1 =>
  some (s1.1, ())
def slices_Index (x : (List Int) × Int × Unit) : Option (Int × Unit) := slices_Index_r x.1 x.2.1
def slices_Index_sm : Sum := ⟨(.cons (.sl cI) (.cons cI .nil)), (.cons (.d cI) .nil), slices_Index⟩
def slices_Index_L0 : LoopSum := { hc := ⟨[], [0, 1, 7, 8], [], [], [], [], 64⟩, h := ⟨[(0, (.d (.sl cI))), (1, (.d cI)), (7, (.d cI)), (8, (.d cI))], [], [], 64⟩, xid := 0, oc := ⟨[], [], [], [], [], [], 64⟩, o := ⟨[], [], [], 64⟩, rc := ⟨[], [4], [], [], [], [], 64⟩, r := ⟨[(4, (.d cI))], [], [], 64⟩, F := slices_Index_l0 }
def slices_Index_c : Ctx := ⟨[], [], [⟨8, 269, 0, 0, slices_Index_L0⟩]⟩
theorem slices_Index_sem : SemOf Tryz.prog 269 slices_Index_sm := semC (c := slices_Index_c) Tryz.func269 an an (ec (aeC [true, false, true, false, false] slices_Index_s0 Tryz.func269) an) 8
def slices_Contains_r (a0 : List Int) (a1 : Int) : Option (Bool × Unit) :=
 (slices_Index (a0, a1, ())).bind fun y1 =>
 some (decide (y1.1 ≥ 0), ())
def slices_Contains (x : (List Int) × Int × Unit) : Option (Bool × Unit) := slices_Contains_r x.1 x.2.1
def slices_Contains_sm : Sum := ⟨(.cons (.sl cI) (.cons cI .nil)), (.cons (.d .bool) .nil), slices_Contains⟩
def slices_Contains_c : Ctx := ⟨[(269, slices_Index_sm)], [], []⟩
theorem slices_Contains_sem : SemOf Tryz.prog 212 slices_Contains_sm := semC (c := slices_Contains_c) Tryz.func212 (sc slices_Index_sem an) an an 8
abbrev take_Right_h0 : U := (.cons (.sl (.arr 4 cI)) (.cons cI (.cons cI (.cons (.arr 4 cI) (.cons cI (.cons cHeap (.cons (.sl cI) .nil)))))))
abbrev take_Right_o0 : U := (.cons (.sl (.arr 4 cI)) (.cons cI (.cons cI (.cons cHeap (.cons (.sl cI) .nil)))))
abbrev take_Right_e0 : U := (.cons .bool .nil)
def take_Right_s0r (v10 : List (List Int)) (v11 : Int) (v12 : Int) (v16 : List Int) (v17 : Int) (c0 : Heap) (r209 : List Int) : Option (SRes take_Right_h0 take_Right_o0 take_Right_e0) :=
 bif decide (v17 < 4) then
  bif decide (0 ≤ v17) then
   bif decide (v17 < 4) then
    bif (v16.getD v17.toNat 0) == (-1) then
     some (.next (v10, v11, v12, v16, wi64 (v17 + 1), c0, r209, ()))
    else
    bif decide ((v16.getD v17.toNat 0) < 0) then
     some (.fin (.ret (false, ())))
    else
    bif decide ((v16.getD v17.toNat 0) ≥ (c0.2.1.length : Int)) then
     some (.fin (.ret (false, ())))
    else
    bif decide (0 ≤ (v16.getD v17.toNat 0)) then
     bif decide ((v16.getD v17.toNat 0) < (c0.2.1.length : Int)) then
      bif (c0.2.1.getD (v16.getD v17.toNat 0).toNat (0, 0, 0, ())).1 == 0 then
       some (.fin (.ret (false, ())))
      else
      bif decide (0 ≤ (v16.getD v17.toNat 0)) then
       bif decide ((v16.getD v17.toNat 0) < (c0.2.1.length : Int)) then
        bif (c0.2.1.getD (v16.getD v17.toNat 0).toNat (0, 0, 0, ())).2.1 != v17 then
         some (.fin (.ret (false, ())))
        else
        (slices_Contains (r209, v16.getD v17.toNat 0, ())).bind fun y1 =>
        bif y1.1 then
         some (.fin (.ret (false, ())))
        else
        bif decide ((r209.length + 1) * 8 ≤ 140737488355328) then
         some (.next (v10, v11, v12, v16, wi64 (v17 + 1), c0, r209 ++ [v16.getD v17.toNat 0], ()))
        else none
       else none
      else none
     else none
    else none
   else none
  else none
 else
 some (.fin (.out (v10, v11, v12, c0, r209, ())))
def take_Right_s0 (x : take_Right_h0.T) : Option (SRes take_Right_h0 take_Right_o0 take_Right_e0) := take_Right_s0r x.1 x.2.1 x.2.2.1 x.2.2.2.1 x.2.2.2.2.1 x.2.2.2.2.2.1 x.2.2.2.2.2.2.1
def take_Right_l0 (x : take_Right_h0.T) : Option (LRes take_Right_o0 take_Right_e0) := iterL take_Right_s0 9223372036854775808 x
abbrev take_Right_h1 : U := (.cons (.sl (.arr 4 cI)) (.cons cI (.cons cI (.cons cHeap (.cons (.sl cI) .nil)))))
abbrev take_Right_o1 : U := .nil
abbrev take_Right_e1 : U := (.cons .bool .nil)
def take_Right_s1r (v10 : List (List Int)) (v11 : Int) (v12 : Int) (c0 : Heap) (r96 : List Int) : Option (SRes take_Right_h1 take_Right_o1 take_Right_e1) :=
 bif decide (v12 < v11) then
  bif decide (0 ≤ v12) then
   bif decide (v12 < (v10.length : Int)) then
    (take_Right_l0 (v10, v11, v12, v10.getD v12.toNat (List.replicate 4 0), 0, c0, r96, ())).bind fun s2 => match s2 with
    | .out s2 =>
     some (.next (s2.1, s2.2.1, wi64 (s2.2.2.1 + 1), s2.2.2.2.1, s2.2.2.2.2.1, ()))
    | .ret s2 =>
     some (.fin (.ret (s2.1, ())))
   else none
  else none
 else
 some (.fin (.out ()))
def take_Right_s1 (x : take_Right_h1.T) : Option (SRes take_Right_h1 take_Right_o1 take_Right_e1) := take_Right_s1r x.1 x.2.1 x.2.2.1 x.2.2.2.1 x.2.2.2.2.1
def take_Right_l1 (x : take_Right_h1.T) : Option (LRes take_Right_o1 take_Right_e1) := iterL take_Right_s1 9223372036854775808 x
def take_Right_r (a0 : Heap) (a1 : List (List Int)) : Option (Bool × Unit) :=
 (take_Right_l1 (a1, (a1.length : Int), 0, a0, [], ())).bind fun s3 => match s3 with
 | .out s3 =>
  some (true, ())
 | .ret s3 =>
  some (s3.1, ())
def take_Right (x : Heap × (List (List Int)) × Unit) : Option (Bool × Unit) := take_Right_r x.1 x.2.1
def take_Right_sm : Sum := ⟨(.cons cHeap (.cons (.sl (.arr 4 cI)) .nil)), (.cons (.d .bool) .nil), take_Right⟩
def take_Right_L0 : LoopSum := { hc := ⟨[], [2, 5, 10, 11, 12, 16, 17], [(.tmp 5, cI)], [], [0], [], 209⟩, h := ⟨[(2, (.pvar 0 [])), (5, (.row 209)), (10, (.d (.sl (.arr 4 cI)))), (11, (.d cI)), (12, (.d cI)), (16, (.d (.arr 4 cI))), (17, (.d cI))], [(0, (.d cHeap))], [(209, cI, true)], 210⟩, xid := 2, oc := ⟨[], [2, 5, 10, 11, 12], [(.tmp 5, cI)], [], [0], [], 209⟩, o := ⟨[(2, (.pvar 0 [])), (5, (.row 209)), (10, (.d (.sl (.arr 4 cI)))), (11, (.d cI)), (12, (.d cI))], [(0, (.d cHeap))], [(209, cI, true)], 210⟩, rc := ⟨[], [4], [], [], [], [], 209⟩, r := ⟨[(4, (.d .bool))], [], [], 209⟩, F := take_Right_l0 }
def take_Right_L1 : LoopSum := { hc := ⟨[], [2, 5, 10, 11, 12], [(.tmp 5, cI)], [], [0], [], 96⟩, h := ⟨[(2, (.pvar 0 [])), (5, (.row 96)), (10, (.d (.sl (.arr 4 cI)))), (11, (.d cI)), (12, (.d cI))], [(0, (.d cHeap))], [(96, cI, true)], 97⟩, xid := 0, oc := ⟨[], [], [], [], [], [], 96⟩, o := ⟨[], [], [], 96⟩, rc := ⟨[], [4], [], [], [], [], 96⟩, r := ⟨[(4, (.d .bool))], [], [], 96⟩, F := take_Right_l1 }
def take_Right_c : Ctx := ⟨[(212, slices_Contains_sm)], [], [⟨8, 146, 0, 2, take_Right_L0⟩, ⟨8, 146, 0, 0, take_Right_L1⟩]⟩
theorem take_Right_sem : SemOf Tryz.prog 146 take_Right_sm := semC (c := take_Right_c) Tryz.func146 (sc slices_Contains_sem an) an (ec (aeC [true, true, false, true, false, false, true, true, false, false, true, true, false, false] take_Right_s0 Tryz.func146) (ec (aeC [true, true, false, true, false, false] take_Right_s1 Tryz.func146) an)) 8
def heap_page_r (a0 : Heap) (a1 : Int) : Option (Span × Bool × Unit) :=
 bif decide (a1 < 0) then
  some ((0, 0, 0, ()), false, ())
 else
 bif decide (a1 ≥ (a0.2.1.length : Int)) then
  some ((0, 0, 0, ()), false, ())
 else
 bif decide (0 ≤ a1) then
  bif decide (a1 < (a0.2.1.length : Int)) then
   some (a0.2.1.getD a1.toNat (0, 0, 0, ()), true, ())
  else none
 else none
def heap_page (x : Heap × Int × Unit) : Option (Span × Bool × Unit) := heap_page_r x.1 x.2.1
def heap_page_sm : Sum := ⟨(.cons cHeap (.cons cI .nil)), (.cons (.d cSpan) (.cons (.d .bool) .nil)), heap_page⟩
def heap_page_c : Ctx := ⟨[], [], []⟩
theorem heap_page_sem : SemOf Tryz.prog 264 heap_page_sm := semC (c := heap_page_c) Tryz.func264 an an an 8
def class_Words_r (a0 : Int) : Option (Int × Unit) :=
 (class_is (a0, ())).bind fun y1 =>
 bif !y1.1 then
  some (0, ())
 else
 bif decide (0 ≤ a0) then
  bif decide (a0 < 4) then
   some (([2, 4, 8, 16] : List Int).getD a0.toNat 0, ())
  else none
 else none
def class_Words (x : Int × Unit) : Option (Int × Unit) := class_Words_r x.1
def class_Words_sm : Sum := ⟨(.cons cI .nil), (.cons (.d cI) .nil), class_Words⟩
def class_Words_c : Ctx := ⟨[(222, class_is_sm)], [], []⟩
theorem class_Words_sem : SemOf Tryz.prog 153 class_Words_sm := semC (c := class_Words_c) Tryz.func153 (sc class_is_sem an) an an 8
def arena_Place_r (a0 : Int) (a1 : Int) : Option (Int × Int × Bool × Unit) :=
 (class_Words (a0, ())).bind fun y1 =>
 bif y1.1 == 0 then
  some (0, 0, false, ())
 else
 bif decide (a1 < 0) then
  some (0, 0, false, ())
 else
 bif decide (a1 ≥ 512) then
  some (0, 0, false, ())
 else
 bif y1.1 == 0 then none else
 bif (a1.tmod y1.1) != 0 then
  some (0, 0, false, ())
 else
 bif y1.1 == 0 then none else
 some (wi64 (a1.tdiv 32), wi64 ((a1.tmod 32).tdiv y1.1), true, ())
def arena_Place (x : Val) : Option (Int × Int × Bool × Unit) := arena_Place_r x.1 x.2.1
def arena_Place_sm : Sum := ⟨cVal, (.cons (.d cI) (.cons (.d cI) (.cons (.d .bool) .nil))), arena_Place⟩
def arena_Place_c : Ctx := ⟨[(153, class_Words_sm)], [], []⟩
theorem arena_Place_sem : SemOf Tryz.prog 265 arena_Place_sm := semC (c := arena_Place_c) Tryz.func265 (sc class_Words_sem an) an an 8
def heap_Find_r (a0 : Heap) (a1 : Int) : Option (Int × Int × Bool × Unit) :=
 (heap_page (a0, wi64 (a1.tdiv 32), ())).bind fun y1 =>
 bif decide (a1 < 0) then
  some (0, 0, false, ())
 else
 bif !y1.2.1 then
  some (0, 0, false, ())
 else
 bif y1.1.1 == 0 then
  some (0, 0, false, ())
 else
 (arena_Place (y1.1.2.1, a1, ())).bind fun y2 =>
 some (y2.1, y2.2.1, y2.2.2.1, ())
def heap_Find (x : Heap × Int × Unit) : Option (Int × Int × Bool × Unit) := heap_Find_r x.1 x.2.1
def heap_Find_sm : Sum := ⟨(.cons cHeap (.cons cI .nil)), (.cons (.d cI) (.cons (.d cI) (.cons (.d .bool) .nil))), heap_Find⟩
def heap_Find_c : Ctx := ⟨[(264, heap_page_sm), (265, arena_Place_sm)], [], []⟩
theorem heap_Find_sem : SemOf Tryz.prog 201 heap_Find_sm := semC (c := heap_Find_c) Tryz.func201 (sc heap_page_sem (sc arena_Place_sem an)) an an 8
def header_May_r (a0 : Hdr) : Option (Bool × Unit) :=
 bif !a0.1 then
  some ((a0.1 == false) && ((a0.2.1 == false) && ((a0.2.2.1 == 0) && ((a0.2.2.2.1 == 0) && true))), ())
 else
 bif decide (a0.2.2.1 ≥ 0) then
  bif decide (a0.2.2.1 < 4) then
   bif decide (a0.2.2.2.1 ≥ 0) then
    bif decide (a0.2.2.1 < 0) then none else
    some (decide (a0.2.2.2.1 < (shiftI true .i64 2 a0.2.2.1)), ())
   else
   some (false, ())
  else
  some (false, ())
 else
 some (false, ())
def header_May (x : Hdr × Unit) : Option (Bool × Unit) := header_May_r x.1
def header_May_sm : Sum := ⟨(.cons cHdr .nil), (.cons (.d .bool) .nil), header_May⟩
def header_May_c : Ctx := ⟨[], [], []⟩
theorem header_May_sem : SemOf Tryz.prog 300 header_May_sm := semC (c := header_May_c) Tryz.func300 an an an 8
def header_Put_r (a0 : Hdr) : Option (Int × Bool × Unit) :=
 (header_May (a0, ())).bind fun y1 =>
 bif !y1.1 then
  some (0, false, ())
 else
 bif !a0.1 then
  some (0, true, ())
 else
 bif a0.2.1 then
  some (bitsI .or .u64 (wu64 (bitsI .or .i64 (bitsI .or .i64 128 (shiftI true .i64 a0.2.2.1 4)) (shiftI true .i64 a0.2.2.2.1 0))) 64, true, ())
 else
 some (wu64 (bitsI .or .i64 (bitsI .or .i64 128 (shiftI true .i64 a0.2.2.1 4)) (shiftI true .i64 a0.2.2.2.1 0)), true, ())
def header_Put (x : Hdr × Unit) : Option (Int × Bool × Unit) := header_Put_r x.1
def header_Put_sm : Sum := ⟨(.cons cHdr .nil), (.cons (.d (.int .u64)) (.cons (.d .bool) .nil)), header_Put⟩
def header_Put_c : Ctx := ⟨[(300, header_May_sm)], [], []⟩
theorem header_Put_sem : SemOf Tryz.prog 250 header_Put_sm := semC (c := header_Put_c) Tryz.func250 (sc header_May_sem an) an an 8
def header_Get_r (a0 : Int) : Option (Hdr × Bool × Unit) :=
 (header_Put (((bitsI .and .u64 a0 128) != 0, (bitsI .and .u64 a0 64) != 0, wi64 (bitsI .and .u64 (shiftI false .u64 a0 4) 3), wi64 (bitsI .and .u64 (shiftI false .u64 a0 0) 15), ()), ())).bind fun y1 =>
 bif !y1.2.1 then
  some ((false, false, 0, 0, ()), false, ())
 else
 bif y1.1 != a0 then
  some ((false, false, 0, 0, ()), false, ())
 else
 some (((bitsI .and .u64 a0 128) != 0, (bitsI .and .u64 a0 64) != 0, wi64 (bitsI .and .u64 (shiftI false .u64 a0 4) 3), wi64 (bitsI .and .u64 (shiftI false .u64 a0 0) 15), ()), true, ())
def header_Get (x : Int × Unit) : Option (Hdr × Bool × Unit) := header_Get_r x.1
def header_Get_sm : Sum := ⟨(.cons (.int .u64) .nil), (.cons (.cons (.d .bool) (.cons (.d .bool) (.cons (.d cI) (.cons (.d cI) .nil)))) (.cons (.d .bool) .nil)), header_Get⟩
def header_Get_c : Ctx := ⟨[(250, header_Put_sm)], [], []⟩
theorem header_Get_sem : SemOf Tryz.prog 202 header_Get_sm := semC (c := header_Get_c) Tryz.func202 (sc header_Put_sem an) an an 8
def object_Get_r (a0 : Heap) (a1 : Int) : Option (Hdr × Bool × Unit) :=
 (heap_Find (a0, a1, ())).bind fun y1 =>
 bif !y1.2.2.1 then
  some ((false, false, 0, 0, ()), false, ())
 else
 bif decide (0 ≤ a1) then
  bif decide (a1 < (a0.1.length : Int)) then
   (header_Get (a0.1.getD a1.toNat 0, ())).bind fun y2 =>
   bif !y2.2.1 then
    some ((false, false, 0, 0, ()), false, ())
   else
   bif !y2.1.1 then
    some ((false, false, 0, 0, ()), false, ())
   else
   bif decide ((wi64 (a1 + y2.1.2.2.2.1)) ≥ (wi64 ((wi64 (y1.1 + 1)) * 32))) then
    some ((false, false, 0, 0, ()), false, ())
   else
   some ((y2.1.1, y2.1.2.1, y2.1.2.2.1, y2.1.2.2.2.1, ()), true, ())
  else none
 else none
def object_Get (x : Heap × Int × Unit) : Option (Hdr × Bool × Unit) := object_Get_r x.1 x.2.1
def object_Get_sm : Sum := ⟨(.cons cHeap (.cons cI .nil)), (.cons (.cons (.d .bool) (.cons (.d .bool) (.cons (.d cI) (.cons (.d cI) .nil)))) (.cons (.d .bool) .nil)), object_Get⟩
def object_Get_c : Ctx := ⟨[(201, heap_Find_sm), (202, header_Get_sm)], [], []⟩
theorem object_Get_sem : SemOf Tryz.prog 130 object_Get_sm := semC (c := object_Get_c) Tryz.func130 (sc heap_Find_sem (sc header_Get_sem an)) an an 8
def grey_Right_1_r (a0 : Int) : Option (Bool × Unit) :=
 some (decide (a0 < 0), ())
def grey_Right_1 (x : Int × Unit) : Option (Bool × Unit) := grey_Right_1_r x.1
def grey_Right_1_sm : Sum := ⟨(.cons cI .nil), (.cons (.d .bool) .nil), grey_Right_1⟩
def grey_Right_1_c : Ctx := ⟨[], [], []⟩
theorem grey_Right_1_sem : SemOf Tryz.prog 271 grey_Right_1_sm := semC (c := grey_Right_1_c) Tryz.func271 an an an 8
abbrev grey_Right_h0 : U := (.cons (.sl cI) (.cons cI (.cons cI (.cons cGrey .nil))))
abbrev grey_Right_o0 : U := (.cons cGrey .nil)
abbrev grey_Right_e0 : U := (.cons cI (.cons cGrey .nil))
def grey_Right_s0r (v0 : List Int) (v7 : Int) (v8 : Int) (c0 : Grey) : Option (SRes grey_Right_h0 grey_Right_o0 grey_Right_e0) :=
 bif decide (v8 < v7) then
  bif decide (0 ≤ v8) then
   bif decide (v8 < (v0.length : Int)) then
    (grey_Right_1 (v0.getD v8.toNat 0, ())).bind fun y1 =>
    bif y1.1 then
     some (.fin (.ret (v8, c0, ())))
    else
    some (.next (v0, v7, wi64 (v8 + 1), c0, ()))
   else none
  else none
 else
 some (.fin (.out (c0, ())))
def grey_Right_s0 (x : grey_Right_h0.T) : Option (SRes grey_Right_h0 grey_Right_o0 grey_Right_e0) := grey_Right_s0r x.1 x.2.1 x.2.2.1 x.2.2.2.1
def grey_Right_l0 (x : grey_Right_h0.T) : Option (LRes grey_Right_o0 grey_Right_e0) := iterL grey_Right_s0 9223372036854775808 x
def grey_Right_r (a0 : Grey) : Option (Bool × Unit) :=
 (grey_Right_l0 (a0.2.1, (a0.2.1.length : Int), 0, a0, ())).bind fun s2 => match s2 with
 | .out s2 =>
  bif decide (s2.1.1 ≥ 0) then
   bif decide (s2.1.1 ≤ 16) then
    bif decide ((s2.1.2.1.length : Int) ≤ s2.1.1) then
     some (true, ())
    else
    some (false, ())
   else
   some (false, ())
  else
  some (false, ())
 | .ret s2 =>
  bif decide (s2.2.1.1 ≥ 0) then
   bif decide (s2.2.1.1 ≤ 16) then
    bif decide ((s2.2.1.2.1.length : Int) ≤ s2.2.1.1) then
     some (!(decide (s2.1 ≥ 0)), ())
    else
    some (false, ())
   else
   some (false, ())
  else
  some (false, ())
def grey_Right (x : Grey × Unit) : Option (Bool × Unit) := grey_Right_r x.1
def grey_Right_sm : Sum := ⟨(.cons cGrey .nil), (.cons (.d .bool) .nil), grey_Right⟩
def grey_Right_L0 : LoopSum := { hc := ⟨[], [0, 1, 7, 8], [], [], [0], [], 256⟩, h := ⟨[(0, (.d (.sl cI))), (1, (.fn 271 .nil .nil)), (7, (.d cI)), (8, (.d cI))], [(0, (.d cGrey))], [], 256⟩, xid := 0, oc := ⟨[], [], [], [], [0], [], 256⟩, o := ⟨[], [(0, (.d cGrey))], [], 256⟩, rc := ⟨[], [4], [], [], [0], [], 256⟩, r := ⟨[(4, (.d cI))], [(0, (.d cGrey))], [], 256⟩, F := grey_Right_l0 }
def grey_Right_c : Ctx := ⟨[(271, grey_Right_1_sm)], [(127, Tryz.f127), (200, Tryz.f200)], [⟨6, 200, 192, 0, grey_Right_L0⟩]⟩
theorem grey_Right_sem : SemOf Tryz.prog 215 grey_Right_sm := semC (c := grey_Right_c) Tryz.func215 (sc grey_Right_1_sem an) (fc (flC Tryz.func127) (fc (flC Tryz.func200) an)) (ec (aeC [true, false, true, false, false] grey_Right_s0 Tryz.func200) an) 8
end
end Go.Proofs.YtkjpakaidjpjgaaGreatDoor.Den
