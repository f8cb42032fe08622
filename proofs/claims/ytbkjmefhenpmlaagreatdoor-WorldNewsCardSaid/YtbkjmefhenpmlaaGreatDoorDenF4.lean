/- What functions come to. Printed by a program of this session. -/
import Derived.Test.YtbkjmefhenpmlaaGreatDoorDenF3
namespace Go.Proofs.YtbkjmefhenpmlaaGreatDoor.Den
open Go
set_option maxRecDepth 100000
set_option linter.unusedVariables false
noncomputable section
abbrev world_Run_h0 : U := (.cons (.sl (.cons cI (.cons (.cons cI (.cons cI cVal)) .nil))) (.cons cI (.cons cI (.cons cWrld (.cons cRep (.cons (.cons .bool .nil) (.cons cI (.cons .nil (.cons (.cons cI (.cons cI (.cons cI (.cons .bool .nil)))) (.cons cI (.cons .bool (.cons cI (.cons .nil (.cons cWrld (.cons (.sl (.cons cI (.cons cI (.cons cI (.cons cVal .nil))))) .nil)))))))))))))))
abbrev world_Run_o0 : U := (.cons cWrld (.cons cRep (.cons (.cons .bool .nil) (.cons cI (.cons .nil (.cons (.cons cI (.cons cI (.cons cI (.cons .bool .nil)))) (.cons cI (.cons .bool (.cons cI (.cons .nil (.cons (.sl (.cons cI (.cons cI (.cons cI (.cons cVal .nil))))) .nil)))))))))))
abbrev world_Run_e0 : U := .nil
def world_Run_s0r (v8 : List (Int × (Int × Int × Val) × Unit)) (v9 : Int) (v10 : Int) (c0 : Wrld) (c16_0 : Rep) (c16_1 : Bool × Unit) (c16_2 : Int) (c16_3 : Unit) (c16_4 : Int × Int × Int × Bool × Unit) (c16_5 : Int) (c16_6 : Bool) (c16_7 : Int) (c16_8 : Unit) (c112 : Wrld) (r240 : List (Int × Int × Int × Val × Unit)) : Option (SRes world_Run_h0 world_Run_o0 world_Run_e0) :=
 bif decide (v10 < v9) then
  bif decide (0 ≤ v10) then
   bif decide (v10 < (v8.length : Int)) then
    (world_Pick (c112, v8.getD v10.toNat (0, (0, 0, 0, 0, ()), ()), ())).bind fun y1 =>
    bif decide ((r240.length + 1) * 40 ≤ 140737488355328) then
     some (.next (v8, v9, wi64 (v10 + 1), y1.1, c16_0, c16_1, c16_2, c16_3, c16_4, c16_5, c16_6, c16_7, c16_8, y1.1, r240 ++ [y1.2.1], ()))
    else none
   else none
  else none
 else
 some (.fin (.out (c0, c16_0, c16_1, c16_2, c16_3, c16_4, c16_5, c16_6, c16_7, c16_8, r240, ())))
def world_Run_s0 (x : world_Run_h0.T) : Option (SRes world_Run_h0 world_Run_o0 world_Run_e0) := world_Run_s0r x.1 x.2.1 x.2.2.1 x.2.2.2.1 x.2.2.2.2.1 x.2.2.2.2.2.1 x.2.2.2.2.2.2.1 x.2.2.2.2.2.2.2.1 x.2.2.2.2.2.2.2.2.1 x.2.2.2.2.2.2.2.2.2.1 x.2.2.2.2.2.2.2.2.2.2.1 x.2.2.2.2.2.2.2.2.2.2.2.1 x.2.2.2.2.2.2.2.2.2.2.2.2.1 x.2.2.2.2.2.2.2.2.2.2.2.2.2.1 x.2.2.2.2.2.2.2.2.2.2.2.2.2.2.1
def world_Run_l0 (x : world_Run_h0.T) : Option (LRes world_Run_o0 world_Run_e0) := iterL world_Run_s0 9223372036854775808 x
def world_Run_r (a0 : Wrld) (a1 : List (Int × (Int × Int × Val) × Unit)) : Option (Wrld × (List (Int × Int × Int × Val × Unit)) × Unit) :=
 (world_Run_l0 (a1, (a1.length : Int), 0, a0, (0, 0, 0, 0, 0, ()), (false, ()), 0, (), (0, 0, 0, false, ()), 0, false, 0, (), a0, [], ())).bind fun s2 => match s2 with
 | .out s2 =>
  some (s2.1, s2.2.2.2.2.2.2.2.2.2.2.1, ())
 | .ret s2 =>
  none
def world_Run (x : Wrld × (List (Int × (Int × Int × Val) × Unit)) × Unit) : Option (Wrld × (List (Int × Int × Int × Val × Unit)) × Unit) := world_Run_r x.1 x.2.1
def world_Run_sm : Sum := ⟨(.cons cWrld (.cons (.sl (.cons cI (.cons (.cons cI (.cons cI cVal)) .nil))) .nil)), (.cons (.d cWrld) (.cons (.own (.cons cI (.cons cI (.cons cI (.cons cVal .nil))))) .nil)), world_Run⟩
def world_Run_L0 : LoopSum := { hc := ⟨[], [0, 2, 8, 9, 10], [(.key 48 [], (.cons cI (.cons cI (.cons cI (.cons cVal .nil)))))], [], [0, 16, 48, 112], [], 240⟩, h := ⟨[(0, (.fn 20 (.cons (.pvar 0 []) (.cons (.pvar 48 []) .nil)) .yld)), (2, (.pvar 112 [])), (8, (.d (.sl (.cons cI (.cons (.cons cI (.cons cI cVal)) .nil))))), (9, (.d cI)), (10, (.d cI))], [(0, (.d cWrld)), (16, (.cons (.d cRep) (.cons (.cons .nilsl (.cons .nilsl (.d (.cons .bool .nil)))) (.cons .nilsl (.cons (.cons (.cons (.d cI) (.cons .nilsl (.d .nil))) (.cons .nilsl (.cons .nilsl (.d (.cons cI (.cons cI (.cons cI (.cons .bool .nil)))))))) (.cons (.d cI) (.cons (.d .bool) (.cons (.d cI) (.cons .nilsl (.d .nil)))))))))), (48, (.row 240)), (112, (.d cWrld))], [(240, (.cons cI (.cons cI (.cons cI (.cons cVal .nil)))), true)], 241⟩, xid := 0, oc := ⟨[], [], [(.key 48 [], (.cons cI (.cons cI (.cons cI (.cons cVal .nil)))))], [], [0, 16, 48], [], 240⟩, o := ⟨[], [(0, (.d cWrld)), (16, (.cons (.d cRep) (.cons (.cons .nilsl (.cons .nilsl (.d (.cons .bool .nil)))) (.cons .nilsl (.cons (.cons (.cons (.d cI) (.cons .nilsl (.d .nil))) (.cons .nilsl (.cons .nilsl (.d (.cons cI (.cons cI (.cons cI (.cons .bool .nil)))))))) (.cons (.d cI) (.cons (.d .bool) (.cons (.d cI) (.cons .nilsl (.d .nil)))))))))), (48, (.row 240))], [(240, (.cons cI (.cons cI (.cons cI (.cons cVal .nil)))), true)], 241⟩, rc := ⟨[], [], [], [], [240], [], 240⟩, r := ⟨[], [], [], 240⟩, F := world_Run_l0 }
def world_Run_c : Ctx := ⟨[(17, world_Pick_sm)], [(20, Tryz.f20), (41, Tryz.f41), (83, Tryz.f83)], [⟨7, 83, 192, 0, world_Run_L0⟩]⟩
theorem world_Run_sem : SemOf Tryz.prog 20 world_Run_sm := semC (c := world_Run_c) Tryz.func20 (sc world_Pick_sem an) (fc (flC Tryz.func20 (hG := rng_some [2, 6] (by kernel_rfl) (by kernel_rfl))) (fc (flC Tryz.func41) (fc (flC Tryz.func83) an))) (ec (aeC [true, false, false] world_Run_s0 Tryz.func83) an) 8 (hG := rng_some [2, 6] (by kernel_rfl) (by kernel_rfl))
def w22_awake_r  : Option (Bool × Unit) :=
 (world_New ((1, 1, 2, 1, 1, ()), ())).bind fun y1 =>
 (world_New ((0, 0, 0, 0, 0, ()), ())).bind fun y2 =>
 (world_Pick ((y1.1.1, (y1.1.2.1.1, y1.1.2.1.2.1, y1.1.2.1.2.2), y1.1.2.2.1, ((y1.1.2.2.2.1.1.1, y1.1.2.2.2.1.1.2.1, y1.1.2.2.2.1.1.2.2), y1.1.2.2.2.1.2.1, y1.1.2.2.2.1.2.2.1, y1.1.2.2.2.1.2.2.2), y1.1.2.2.2.2.1, y1.1.2.2.2.2.2.1, y1.1.2.2.2.2.2.2.1, y1.1.2.2.2.2.2.2.2.1, y1.1.2.2.2.2.2.2.2.2), (9, (0, 0, 0, 0, ()), ()), ())).bind fun y3 =>
 (world_Pick ((y1.1.1, (y1.1.2.1.1, y1.1.2.1.2.1, y1.1.2.1.2.2), y1.1.2.2.1, ((y1.1.2.2.2.1.1.1, y1.1.2.2.2.1.1.2.1, y1.1.2.2.2.1.1.2.2), y1.1.2.2.2.1.2.1, y1.1.2.2.2.1.2.2.1, y1.1.2.2.2.1.2.2.2), y1.1.2.2.2.2.1, y1.1.2.2.2.2.2.1, y1.1.2.2.2.2.2.2.1, y1.1.2.2.2.2.2.2.2.1, y1.1.2.2.2.2.2.2.2.2), ((-1), (0, 0, 0, 0, ()), ()), ())).bind fun y4 =>
 (world_Run ((y1.1.1, (y1.1.2.1.1, y1.1.2.1.2.1, y1.1.2.1.2.2), y1.1.2.2.1, ((y1.1.2.2.2.1.1.1, y1.1.2.2.2.1.1.2.1, y1.1.2.2.2.1.1.2.2), y1.1.2.2.2.1.2.1, y1.1.2.2.2.1.2.2.1, y1.1.2.2.2.1.2.2.2), y1.1.2.2.2.2.1, y1.1.2.2.2.2.2.1, y1.1.2.2.2.2.2.2.1, y1.1.2.2.2.2.2.2.2.1, y1.1.2.2.2.2.2.2.2.2), [(0, (6, 0, 0, 0, ()), ()), ((-1), (0, 0, 0, 0, ()), ())], ())).bind fun y5 =>
 bif y1.2.1 == 0 then
  bif y2.2.1 == 1 then
   (r22_New ((1, 1, 2, 1, 1, ()), ())).bind fun y6 =>
   (r20_Same ((y1.1.1, (y1.1.2.1.1, y1.1.2.1.2.1, y1.1.2.1.2.2), y1.1.2.2.1, ((y1.1.2.2.2.1.1.1, y1.1.2.2.2.1.1.2.1, y1.1.2.2.2.1.1.2.2), y1.1.2.2.2.1.2.1, y1.1.2.2.2.1.2.2.1, y1.1.2.2.2.1.2.2.2), y1.1.2.2.2.2.1, y1.1.2.2.2.2.2.1, y1.1.2.2.2.2.2.2.1, y1.1.2.2.2.2.2.2.2.1, y1.1.2.2.2.2.2.2.2.2), (y6.1.1, (y6.1.2.1.1, y6.1.2.1.2.1, y6.1.2.1.2.2), y6.1.2.2.1, ((y6.1.2.2.2.1.1.1, y6.1.2.2.2.1.1.2.1, y6.1.2.2.2.1.1.2.2), y6.1.2.2.2.1.2.1, y6.1.2.2.2.1.2.2.1, y6.1.2.2.2.1.2.2.2), y6.1.2.2.2.2.1, y6.1.2.2.2.2.2.1, y6.1.2.2.2.2.2.2.1, y6.1.2.2.2.2.2.2.2.1, y6.1.2.2.2.2.2.2.2.2), ())).bind fun y7 =>
   bif y7.1 then
    bif (y3.2.1.1 == 9) && ((y3.2.1.2.1 == 0) && ((y3.2.1.2.2.1 == 1) && (((y3.2.1.2.2.2.1.1 == 0) && ((y3.2.1.2.2.2.1.2.1 == 0) && true)) && true))) then
     bif (y4.2.1.1 == (-1)) && ((y4.2.1.2.1 == 0) && ((y4.2.1.2.2.1 == 0) && (((y4.2.1.2.2.2.1.1 == 0) && ((y4.2.1.2.2.2.1.2.1 == 0) && true)) && true))) then
      bif (y5.2.1.length : Int) == 2 then
       bif decide (1 < (y5.2.1.length : Int)) then
        bif ((y5.2.1.getD 1 (0, 0, 0, (0, 0, ()), ())).1 == (-1)) && (((y5.2.1.getD 1 (0, 0, 0, (0, 0, ()), ())).2.1 == 3) && (((y5.2.1.getD 1 (0, 0, 0, (0, 0, ()), ())).2.2.1 == 0) && ((((y5.2.1.getD 1 (0, 0, 0, (0, 0, ()), ())).2.2.2.1.1 == 0) && (((y5.2.1.getD 1 (0, 0, 0, (0, 0, ()), ())).2.2.2.1.2.1 == 0) && true)) && true))) then
         bif y5.1.2.2.2.2.1 == 1 then
          (world_Whole ((y1.1.1, (y1.1.2.1.1, y1.1.2.1.2.1, y1.1.2.1.2.2), y1.1.2.2.1, ((y1.1.2.2.2.1.1.1, y1.1.2.2.2.1.1.2.1, y1.1.2.2.2.1.1.2.2), y1.1.2.2.2.1.2.1, y1.1.2.2.2.1.2.2.1, y1.1.2.2.2.1.2.2.2), y1.1.2.2.2.2.1, y1.1.2.2.2.2.2.1, y1.1.2.2.2.2.2.2.1, y1.1.2.2.2.2.2.2.2.1, y1.1.2.2.2.2.2.2.2.2), ())).bind fun y8 =>
          bif y8.1 then
           (world_Whole (((0, 0, 0, 0, 0, ()), ([], [], false, ()), [], ((0, [], ()), [], [], 0, 0, 0, false, ()), 0, false, 0, [], ()), ())).bind fun y9 =>
           some (!y9.1, ())
          else
          some (false, ())
         else
         some (false, ())
        else
        some (false, ())
       else none
      else
      some (false, ())
     else
     some (false, ())
    else
    some (false, ())
   else
   some (false, ())
  else
  some (false, ())
 else
 some (false, ())
def w22_awake (x : Unit) : Option (Bool × Unit) := w22_awake_r 
def w22_awake_sm : Sum := ⟨.nil, (.cons (.d .bool) .nil), w22_awake⟩
def w22_awake_c : Ctx := ⟨[(11, world_New_sm), (13, r20_Same_sm), (14, r22_New_sm), (15, world_Whole_sm), (17, world_Pick_sm), (20, world_Run_sm)], [], []⟩
theorem w22_awake_sem : SemOf Tryz.prog 9 w22_awake_sm := semC (c := w22_awake_c) Tryz.func9 (sc world_New_sem (sc r20_Same_sem (sc r22_New_sem (sc world_Whole_sem (sc world_Pick_sem (sc world_Run_sem an)))))) an an 8
abbrev r18_Few_h0 : U := (.cons (.sl cMut) (.cons cI .nil))
abbrev r18_Few_o0 : U := (.cons (.sl cMut) .nil)
abbrev r18_Few_e0 : U := (.cons .bool .nil)
def r18_Few_s0r (v0 : List Mut) (v3 : Int) : Option (SRes r18_Few_h0 r18_Few_o0 r18_Few_e0) :=
 bif decide (v3 < (v0.length : Int)) then
  bif decide (v3 < 20) then
   bif decide (0 ≤ v3) then
    bif decide (v3 < (v0.length : Int)) then
     bif decide (((v0.getD v3.toNat ([], 0, (0, 0, 0, 0, ()), 0, (0, 0, ()), List.replicate 4 0, ())).1.length : Int) > 20) then
      some (.fin (.ret (false, ())))
     else
     some (.next (v0, wi64 (v3 + 1), ()))
    else none
   else none
  else
  some (.fin (.out (v0, ())))
 else
 some (.fin (.out (v0, ())))
def r18_Few_s0 (x : r18_Few_h0.T) : Option (SRes r18_Few_h0 r18_Few_o0 r18_Few_e0) := r18_Few_s0r x.1 x.2.1
def r18_Few_l0 (x : r18_Few_h0.T) : Option (LRes r18_Few_o0 r18_Few_e0) := iterL r18_Few_s0 9223372036854775808 x
def r18_Few_r (a0 : List Mut) : Option (Bool × Unit) :=
 (r18_Few_l0 (a0, 0, ())).bind fun s1 => match s1 with
 | .out s1 =>
  some (decide ((s1.1.length : Int) ≤ 10), ())
 | .ret s1 =>
  some (s1.1, ())
def r18_Few (x : (List Mut) × Unit) : Option (Bool × Unit) := r18_Few_r x.1
def r18_Few_sm : Sum := ⟨(.cons (.sl cMut) .nil), (.cons (.d .bool) .nil), r18_Few⟩
def r18_Few_L0 : LoopSum := { hc := ⟨[], [0, 3], [], [], [], [], 32⟩, h := ⟨[(0, (.d (.sl cMut))), (3, (.d cI))], [], [], 32⟩, xid := 0, oc := ⟨[], [0], [], [], [], [], 32⟩, o := ⟨[(0, (.d (.sl cMut)))], [], [], 32⟩, rc := ⟨[], [2], [], [], [], [], 32⟩, r := ⟨[(2, (.d .bool))], [], [], 32⟩, F := r18_Few_l0 }
def r18_Few_c : Ctx := ⟨[], [], [⟨8, 24, 0, 0, r18_Few_L0⟩]⟩
theorem r18_Few_sem : SemOf Tryz.prog 24 r18_Few_sm := semC (c := r18_Few_c) Tryz.func24 an an (ec (aeC [true, false, true, false, false] r18_Few_s0 Tryz.func24) an) 8
abbrev r17_Few_h0 : U := (.cons cI (.cons cMarker .nil))
abbrev r17_Few_o0 : U := (.cons cMarker .nil)
abbrev r17_Few_e0 : U := (.cons .bool .nil)
def r17_Few_s0r (v3 : Int) (c0 : Marker) : Option (SRes r17_Few_h0 r17_Few_o0 r17_Few_e0) :=
 bif decide (v3 < (c0.2.1.length : Int)) then
  bif decide (v3 < 20) then
   bif decide (0 ≤ v3) then
    bif decide (v3 < (c0.2.1.length : Int)) then
     bif decide (((c0.2.1.getD v3.toNat (0, [], ())).2.1.length : Int) > 20) then
      some (.fin (.ret (false, ())))
     else
     some (.next (wi64 (v3 + 1), c0, ()))
    else none
   else none
  else
  some (.fin (.out (c0, ())))
 else
 some (.fin (.out (c0, ())))
def r17_Few_s0 (x : r17_Few_h0.T) : Option (SRes r17_Few_h0 r17_Few_o0 r17_Few_e0) := r17_Few_s0r x.1 x.2.1
def r17_Few_l0 (x : r17_Few_h0.T) : Option (LRes r17_Few_o0 r17_Few_e0) := iterL r17_Few_s0 9223372036854775808 x
def r17_Few_r (a0 : Marker) : Option (Bool × Unit) :=
 (r17_Few_l0 (0, a0, ())).bind fun s1 => match s1 with
 | .out s1 =>
  bif decide ((s1.1.1.2.1.length : Int) ≤ 20) then
   bif decide ((s1.1.2.1.length : Int) ≤ 10) then
    some (decide ((s1.1.2.2.1.length : Int) ≤ 300), ())
   else
   some (false, ())
  else
  some (false, ())
 | .ret s1 =>
  some (s1.1, ())
def r17_Few (x : Marker × Unit) : Option (Bool × Unit) := r17_Few_r x.1
def r17_Few_sm : Sum := ⟨(.cons cMarker .nil), (.cons (.d .bool) .nil), r17_Few⟩
def r17_Few_L0 : LoopSum := { hc := ⟨[], [1, 3], [], [], [0], [], 48⟩, h := ⟨[(1, (.pvar 0 [])), (3, (.d cI))], [(0, (.d cMarker))], [], 48⟩, xid := 0, oc := ⟨[], [1], [], [], [0], [], 48⟩, o := ⟨[(1, (.pvar 0 []))], [(0, (.d cMarker))], [], 48⟩, rc := ⟨[], [2], [], [], [], [], 48⟩, r := ⟨[(2, (.d .bool))], [], [], 48⟩, F := r17_Few_l0 }
def r17_Few_c : Ctx := ⟨[], [], [⟨8, 25, 0, 0, r17_Few_L0⟩]⟩
theorem r17_Few_sem : SemOf Tryz.prog 25 r17_Few_sm := semC (c := r17_Few_c) Tryz.func25 an an (ec (aeC [true, false, true, false, false] r17_Few_s0 Tryz.func25) an) 8
def r20_Few_r (a0 : Wrld) : Option (Bool × Unit) :=
 bif decide ((a0.2.1.1.length : Int) ≤ 160) then
  bif decide ((a0.2.1.2.1.length : Int) ≤ 10) then
   (r18_Few (a0.2.2.1, ())).bind fun y1 =>
   bif y1.1 then
    (r17_Few (a0.2.2.2.1, ())).bind fun y2 =>
    bif y2.1 then
     some (decide ((a0.2.2.2.2.2.2.2.1.length : Int) ≤ 50), ())
    else
    some (false, ())
   else
   some (false, ())
  else
  some (false, ())
 else
 some (false, ())
def r20_Few (x : Wrld × Unit) : Option (Bool × Unit) := r20_Few_r x.1
def r20_Few_sm : Sum := ⟨(.cons cWrld .nil), (.cons (.d .bool) .nil), r20_Few⟩
def r20_Few_c : Ctx := ⟨[(24, r18_Few_sm), (25, r17_Few_sm)], [], []⟩
theorem r20_Few_sem : SemOf Tryz.prog 10 r20_Few_sm := semC (c := r20_Few_c) Tryz.func10 (sc r18_Few_sem (sc r17_Few_sem an)) an an 8
def r20_May_r (a0 : Rep) : Option (Bool × Unit) :=
 bif decide (a0.1 < 1) then
  some (false, ())
 else
 bif decide (a0.1 > 16) then
  some (false, ())
 else
 bif decide (a0.2.1 < 1) then
  some (false, ())
 else
 bif decide (a0.2.1 > 8) then
  some (false, ())
 else
 bif decide (a0.2.2.1 < 1) then
  some (false, ())
 else
 bif decide (a0.2.2.1 > 8) then
  some (false, ())
 else
 bif decide (a0.2.2.2.1 ≥ 0) then
  bif decide (a0.2.2.2.1 ≤ 16) then
   bif decide (a0.2.2.2.2.1 ≥ 0) then
    some (decide (a0.2.2.2.2.1 ≤ 8), ())
   else
   some (false, ())
  else
  some (false, ())
 else
 some (false, ())
def r20_May (x : Rep × Unit) : Option (Bool × Unit) := r20_May_r x.1
def r20_May_sm : Sum := ⟨(.cons cRep .nil), (.cons (.d .bool) .nil), r20_May⟩
def r20_May_c : Ctx := ⟨[], [], []⟩
theorem r20_May_sem : SemOf Tryz.prog 12 r20_May_sm := semC (c := r20_May_c) Tryz.func12 an an an 8
abbrev r04_Blocks_h0 : U := (.cons cI cVal)
abbrev r04_Blocks_o0 : U := (.cons cI .nil)
abbrev r04_Blocks_e0 : U := .nil
def r04_Blocks_s0r (v0 : Int) (v3 : Int) (v4 : Int) : Option (SRes r04_Blocks_h0 r04_Blocks_o0 r04_Blocks_e0) :=
 bif decide (v4 < v0) then
  some (.next (v0, wi64 (v3.tdiv 2), wi64 (v4 + 1), ()))
 else
 some (.fin (.out (v3, ())))
def r04_Blocks_s0 (x : r04_Blocks_h0.T) : Option (SRes r04_Blocks_h0 r04_Blocks_o0 r04_Blocks_e0) := r04_Blocks_s0r x.1 x.2.1 x.2.2.1
def r04_Blocks_l0 (x : r04_Blocks_h0.T) : Option (LRes r04_Blocks_o0 r04_Blocks_e0) := iterL r04_Blocks_s0 9223372036854775808 x
def r04_Blocks_r (a0 : Int) : Option (Int × Unit) :=
 bif decide (a0 < 0) then
  some (0, ())
 else
 bif decide (a0 > 3) then
  some (0, ())
 else
 (r04_Blocks_l0 (a0, 16, 0, ())).bind fun s1 => match s1 with
 | .out s1 =>
  some (s1.1, ())
 | .ret s1 =>
  none
def r04_Blocks (x : Int × Unit) : Option (Int × Unit) := r04_Blocks_r x.1
def r04_Blocks_sm : Sum := ⟨(.cons cI .nil), (.cons (.d cI) .nil), r04_Blocks⟩
def r04_Blocks_L0 : LoopSum := { hc := ⟨[], [0, 3, 4], [], [], [], [], 144⟩, h := ⟨[(0, (.d cI)), (3, (.d cI)), (4, (.d cI))], [], [], 144⟩, xid := 0, oc := ⟨[], [3], [], [], [], [], 144⟩, o := ⟨[(3, (.d cI))], [], [], 144⟩, rc := ⟨[], [], [], [], [144], [], 144⟩, r := ⟨[], [], [], 144⟩, F := r04_Blocks_l0 }
def r04_Blocks_c : Ctx := ⟨[], [], [⟨8, 48, 0, 0, r04_Blocks_L0⟩]⟩
theorem r04_Blocks_sem : SemOf Tryz.prog 48 r04_Blocks_sm := semC (c := r04_Blocks_c) Tryz.func48 an an (ec (aeC [true, true, true, false, true, false, false] r04_Blocks_s0 Tryz.func48) an) 8
abbrev r03_Has_h0 : U := (.cons (.int .u32) cVal)
abbrev r03_Has_o0 : U := (.cons (.int .u32) .nil)
abbrev r03_Has_e0 : U := .nil
def r03_Has_s0r (v0 : Int) (v1 : Int) (v5 : Int) : Option (SRes r03_Has_h0 r03_Has_o0 r03_Has_e0) :=
 bif decide (v5 < v1) then
  some (.next (wu32 (v0.tdiv 2), v1, wi64 (v5 + 1), ()))
 else
 some (.fin (.out (v0, ())))
def r03_Has_s0 (x : r03_Has_h0.T) : Option (SRes r03_Has_h0 r03_Has_o0 r03_Has_e0) := r03_Has_s0r x.1 x.2.1 x.2.2.1
def r03_Has_l0 (x : r03_Has_h0.T) : Option (LRes r03_Has_o0 r03_Has_e0) := iterL r03_Has_s0 9223372036854775808 x
def r03_Has_r (a0 : Int) (a1 : Int) : Option (Bool × Unit) :=
 bif decide (a1 < 0) then
  some (false, ())
 else
 bif decide (a1 > 31) then
  some (false, ())
 else
 (r03_Has_l0 (a0, a1, 0, ())).bind fun s1 => match s1 with
 | .out s1 =>
  some ((s1.1.tmod 2) == 1, ())
 | .ret s1 =>
  none
def r03_Has (x : Int × Int × Unit) : Option (Bool × Unit) := r03_Has_r x.1 x.2.1
def r03_Has_sm : Sum := ⟨(.cons (.int .u32) (.cons cI .nil)), (.cons (.d .bool) .nil), r03_Has⟩
def r03_Has_L0 : LoopSum := { hc := ⟨[], [0, 1, 5], [], [], [], [], 128⟩, h := ⟨[(0, (.d (.int .u32))), (1, (.d cI)), (5, (.d cI))], [], [], 128⟩, xid := 0, oc := ⟨[], [0], [], [], [], [], 128⟩, o := ⟨[(0, (.d (.int .u32)))], [], [], 128⟩, rc := ⟨[], [], [], [], [128], [], 128⟩, r := ⟨[], [], [], 128⟩, F := r03_Has_l0 }
def r03_Has_c : Ctx := ⟨[], [], [⟨8, 49, 0, 0, r03_Has_L0⟩]⟩
theorem r03_Has_sem : SemOf Tryz.prog 49 r03_Has_sm := semC (c := r03_Has_c) Tryz.func49 an an (ec (aeC [true, true, false, true, false, false] r03_Has_s0 Tryz.func49) an) 8
def r06_InUse_r (a0 : Span) : Option (Bool × Unit) :=
 bif a0.1 == 1 then
  some (true, ())
 else
 some (a0.1 == 2, ())
def r06_InUse (x : Span × Unit) : Option (Bool × Unit) := r06_InUse_r x.1
def r06_InUse_sm : Sum := ⟨(.cons cSpan .nil), (.cons (.d .bool) .nil), r06_InUse⟩
def r06_InUse_c : Ctx := ⟨[], [], []⟩
theorem r06_InUse_sem : SemOf Tryz.prog 132 r06_InUse_sm := semC (c := r06_InUse_c) Tryz.func132 an an an 8
abbrev r06_Right_h0 : U := (.cons cI (.cons cSpan .nil))
abbrev r06_Right_o0 : U := .nil
abbrev r06_Right_e0 : U := (.cons .bool .nil)
def r06_Right_s0r (v3 : Int) (c0 : Span) : Option (SRes r06_Right_h0 r06_Right_o0 r06_Right_e0) :=
 bif decide (v3 < 32) then
  (r03_Has (c0.2.2.1, v3, ())).bind fun y3 =>
  bif y3.1 then
   some (.fin (.ret (false, ())))
  else
  some (.next (wi64 (v3 + 1), c0, ()))
 else
 some (.fin (.out ()))
def r06_Right_s0 (x : r06_Right_h0.T) : Option (SRes r06_Right_h0 r06_Right_o0 r06_Right_e0) := r06_Right_s0r x.1 x.2.1
def r06_Right_l0 (x : r06_Right_h0.T) : Option (LRes r06_Right_o0 r06_Right_e0) := iterL r06_Right_s0 9223372036854775808 x
def r06_Right_r (a0 : Span) : Option (Bool × Unit) :=
 bif a0.1 == 0 then
  bif a0.2.1 == 0 then
   some (a0.2.2.1 == 0, ())
  else
  some (false, ())
 else
 (r06_InUse (a0, ())).bind fun y1 =>
 bif !y1.1 then
  some (false, ())
 else
 bif decide (a0.2.1 < 0) then
  some (false, ())
 else
 bif decide (a0.2.1 > 3) then
  some (false, ())
 else
 (r04_Blocks (a0.2.1, ())).bind fun y2 =>
 (r06_Right_l0 (y2.1, a0, ())).bind fun s4 => match s4 with
 | .out s4 =>
  some (true, ())
 | .ret s4 =>
  some (s4.1, ())
def r06_Right (x : Span × Unit) : Option (Bool × Unit) := r06_Right_r x.1
def r06_Right_sm : Sum := ⟨(.cons cSpan .nil), (.cons (.d .bool) .nil), r06_Right⟩
def r06_Right_L0 : LoopSum := { hc := ⟨[], [1, 3], [], [], [0], [], 352⟩, h := ⟨[(1, (.pvar 0 [])), (3, (.d cI))], [(0, (.d cSpan))], [], 352⟩, xid := 0, oc := ⟨[], [], [], [], [], [], 352⟩, o := ⟨[], [], [], 352⟩, rc := ⟨[], [2], [], [], [], [], 352⟩, r := ⟨[(2, (.d .bool))], [], [], 352⟩, F := r06_Right_l0 }
def r06_Right_c : Ctx := ⟨[(48, r04_Blocks_sm), (49, r03_Has_sm), (132, r06_InUse_sm)], [], [⟨8, 84, 0, 0, r06_Right_L0⟩]⟩
theorem r06_Right_sem : SemOf Tryz.prog 84 r06_Right_sm := semC (c := r06_Right_c) Tryz.func84 (sc r04_Blocks_sem (sc r03_Has_sem (sc r06_InUse_sem an))) an (ec (aeC [true, true, true, false, true, false, false] r06_Right_s0 Tryz.func84) an) 8
abbrev r07_Form_h0 : U := (.cons cI (.cons cHeap .nil))
abbrev r07_Form_o0 : U := .nil
abbrev r07_Form_e0 : U := (.cons .bool .nil)
def r07_Form_s0r (v3 : Int) (c0 : Heap) : Option (SRes r07_Form_h0 r07_Form_o0 r07_Form_e0) :=
 bif decide (v3 < (c0.2.1.length : Int)) then
  bif decide (0 ≤ v3) then
   bif decide (v3 < (c0.2.1.length : Int)) then
    (r06_Right (c0.2.1.getD v3.toNat (0, 0, 0, ()), ())).bind fun y1 =>
    bif !y1.1 then
     some (.fin (.ret (false, ())))
    else
    some (.next (wi64 (v3 + 1), c0, ()))
   else none
  else none
 else
 some (.fin (.out ()))
def r07_Form_s0 (x : r07_Form_h0.T) : Option (SRes r07_Form_h0 r07_Form_o0 r07_Form_e0) := r07_Form_s0r x.1 x.2.1
def r07_Form_l0 (x : r07_Form_h0.T) : Option (LRes r07_Form_o0 r07_Form_e0) := iterL r07_Form_s0 9223372036854775808 x
def r07_Form_r (a0 : Heap) : Option (Bool × Unit) :=
 bif decide ((a0.2.1.length : Int) < 1) then
  some (false, ())
 else
 bif decide ((a0.2.1.length : Int) > 16) then
  some (false, ())
 else
 bif (a0.1.length : Int) != (wi64 (32 * (a0.2.1.length : Int))) then
  some (false, ())
 else
 (r07_Form_l0 (0, a0, ())).bind fun s2 => match s2 with
 | .out s2 =>
  some (true, ())
 | .ret s2 =>
  some (s2.1, ())
def r07_Form (x : Heap × Unit) : Option (Bool × Unit) := r07_Form_r x.1
def r07_Form_sm : Sum := ⟨(.cons cHeap .nil), (.cons (.d .bool) .nil), r07_Form⟩
def r07_Form_L0 : LoopSum := { hc := ⟨[], [1, 3], [], [], [0], [], 368⟩, h := ⟨[(1, (.pvar 0 [])), (3, (.d cI))], [(0, (.d cHeap))], [], 368⟩, xid := 0, oc := ⟨[], [], [], [], [], [], 368⟩, o := ⟨[], [], [], 368⟩, rc := ⟨[], [2], [], [], [], [], 368⟩, r := ⟨[(2, (.d .bool))], [], [], 368⟩, F := r07_Form_l0 }
def r07_Form_c : Ctx := ⟨[(84, r06_Right_sm)], [], [⟨8, 42, 0, 0, r07_Form_L0⟩]⟩
theorem r07_Form_sem : SemOf Tryz.prog 42 r07_Form_sm := semC (c := r07_Form_c) Tryz.func42 (sc r06_Right_sem an) an (ec (aeC [true, true, false, true, false, false] r07_Form_s0 Tryz.func42) an) 8
abbrev r11_Right_h0 : U := (.cons (.sl (.arr 4 cI)) (.cons cI (.cons cI (.cons cI (.cons cI (.cons cI (.cons cI (.cons cHeap .nil))))))))
abbrev r11_Right_o0 : U := (.cons (.sl (.arr 4 cI)) (.cons cI (.cons cI (.cons cI (.cons cI (.cons cI (.cons cHeap .nil)))))))
abbrev r11_Right_e0 : U := .nil
def r11_Right_s0r (v1 : List (List Int)) (v5 : Int) (v6 : Int) (v7 : Int) (v8 : Int) (v9 : Int) (v10 : Int) (c0 : Heap) : Option (SRes r11_Right_h0 r11_Right_o0 r11_Right_e0) :=
 bif decide (v10 < 4) then
  bif decide (0 ≤ v9) then
   bif decide (v9 < (v1.length : Int)) then
    bif decide (0 ≤ v10) then
     bif decide (v10 < 4) then
      bif ((v1.getD v9.toNat (List.replicate 4 0)).getD v10.toNat 0) == v7 then
       some (.next (v1, v5, v6, v7, wi64 (v8 + 1), v9, wi64 (v10 + 1), c0, ()))
      else
      some (.next (v1, v5, v6, v7, v8, v9, wi64 (v10 + 1), c0, ()))
     else none
    else none
   else none
  else none
 else
 some (.fin (.out (v1, v5, v6, v7, v8, v9, c0, ())))
def r11_Right_s0 (x : r11_Right_h0.T) : Option (SRes r11_Right_h0 r11_Right_o0 r11_Right_e0) := r11_Right_s0r x.1 x.2.1 x.2.2.1 x.2.2.2.1 x.2.2.2.2.1 x.2.2.2.2.2.1 x.2.2.2.2.2.2.1 x.2.2.2.2.2.2.2.1
def r11_Right_l0 (x : r11_Right_h0.T) : Option (LRes r11_Right_o0 r11_Right_e0) := iterL r11_Right_s0 9223372036854775808 x
abbrev r11_Right_h1 : U := (.cons (.sl (.arr 4 cI)) (.cons cI (.cons cI (.cons cI (.cons cI (.cons cI (.cons cHeap .nil)))))))
abbrev r11_Right_o1 : U := (.cons (.sl (.arr 4 cI)) (.cons cI (.cons cI (.cons cI (.cons cHeap .nil)))))
abbrev r11_Right_e1 : U := .nil
def r11_Right_s1r (v1 : List (List Int)) (v5 : Int) (v6 : Int) (v7 : Int) (v8 : Int) (v9 : Int) (c0 : Heap) : Option (SRes r11_Right_h1 r11_Right_o1 r11_Right_e1) :=
 bif decide (v9 < (v1.length : Int)) then
  (r11_Right_l0 (v1, v5, v6, v7, v8, v9, 0, c0, ())).bind fun s1 => match s1 with
  | .out s1 =>
   some (.next (s1.1, s1.2.1, s1.2.2.1, s1.2.2.2.1, s1.2.2.2.2.1, wi64 (s1.2.2.2.2.2.1 + 1), s1.2.2.2.2.2.2.1, ()))
  | .ret s1 =>
   none
 else
 some (.fin (.out (v1, v5, v6, v8, c0, ())))
def r11_Right_s1 (x : r11_Right_h1.T) : Option (SRes r11_Right_h1 r11_Right_o1 r11_Right_e1) := r11_Right_s1r x.1 x.2.1 x.2.2.1 x.2.2.2.1 x.2.2.2.2.1 x.2.2.2.2.2.1 x.2.2.2.2.2.2.1
def r11_Right_l1 (x : r11_Right_h1.T) : Option (LRes r11_Right_o1 r11_Right_e1) := iterL r11_Right_s1 9223372036854775808 x
abbrev r11_Right_h2 : U := (.cons (.sl (.arr 4 cI)) (.cons cI (.cons cI (.cons cHeap .nil))))
abbrev r11_Right_o2 : U := (.cons (.sl (.arr 4 cI)) (.cons cI (.cons cHeap .nil)))
abbrev r11_Right_e2 : U := (.cons .bool .nil)
def r11_Right_s2r (v1 : List (List Int)) (v5 : Int) (v6 : Int) (c0 : Heap) : Option (SRes r11_Right_h2 r11_Right_o2 r11_Right_e2) :=
 bif decide (v6 < 4) then
  bif decide (0 ≤ v5) then
   bif decide (v5 < (v1.length : Int)) then
    bif decide (0 ≤ v6) then
     bif decide (v6 < 4) then
      bif ((v1.getD v5.toNat (List.replicate 4 0)).getD v6.toNat 0) == (-1) then
       some (.next (v1, v5, wi64 (v6 + 1), c0, ()))
      else
      bif decide (((v1.getD v5.toNat (List.replicate 4 0)).getD v6.toNat 0) < 0) then
       some (.fin (.ret (false, ())))
      else
      bif decide (((v1.getD v5.toNat (List.replicate 4 0)).getD v6.toNat 0) ≥ (c0.2.1.length : Int)) then
       some (.fin (.ret (false, ())))
      else
      bif decide (0 ≤ ((v1.getD v5.toNat (List.replicate 4 0)).getD v6.toNat 0)) then
       bif decide (((v1.getD v5.toNat (List.replicate 4 0)).getD v6.toNat 0) < (c0.2.1.length : Int)) then
        bif (c0.2.1.getD ((v1.getD v5.toNat (List.replicate 4 0)).getD v6.toNat 0).toNat (0, 0, 0, ())).1 == 0 then
         some (.fin (.ret (false, ())))
        else
        bif decide (0 ≤ ((v1.getD v5.toNat (List.replicate 4 0)).getD v6.toNat 0)) then
         bif decide (((v1.getD v5.toNat (List.replicate 4 0)).getD v6.toNat 0) < (c0.2.1.length : Int)) then
          bif (c0.2.1.getD ((v1.getD v5.toNat (List.replicate 4 0)).getD v6.toNat 0).toNat (0, 0, 0, ())).2.1 != v6 then
           some (.fin (.ret (false, ())))
          else
          (r11_Right_l1 (v1, v5, v6, (v1.getD v5.toNat (List.replicate 4 0)).getD v6.toNat 0, 0, 0, c0, ())).bind fun s2 => match s2 with
          | .out s2 =>
           bif s2.2.2.2.1 != 1 then
            some (.fin (.ret (false, ())))
           else
           some (.next (s2.1, s2.2.1, wi64 (s2.2.2.1 + 1), s2.2.2.2.2.1, ()))
          | .ret s2 =>
           none
         else none
        else none
       else none
      else none
     else none
    else none
   else none
  else none
 else
 some (.fin (.out (v1, v5, c0, ())))
def r11_Right_s2 (x : r11_Right_h2.T) : Option (SRes r11_Right_h2 r11_Right_o2 r11_Right_e2) := r11_Right_s2r x.1 x.2.1 x.2.2.1 x.2.2.2.1
def r11_Right_l2 (x : r11_Right_h2.T) : Option (LRes r11_Right_o2 r11_Right_e2) := iterL r11_Right_s2 9223372036854775808 x
abbrev r11_Right_h3 : U := (.cons (.sl (.arr 4 cI)) (.cons cI (.cons cHeap .nil)))
abbrev r11_Right_o3 : U := .nil
abbrev r11_Right_e3 : U := (.cons .bool .nil)
def r11_Right_s3r (v1 : List (List Int)) (v5 : Int) (c0 : Heap) : Option (SRes r11_Right_h3 r11_Right_o3 r11_Right_e3) :=
 bif decide (v5 < (v1.length : Int)) then
  (r11_Right_l2 (v1, v5, 0, c0, ())).bind fun s3 => match s3 with
  | .out s3 =>
   some (.next (s3.1, wi64 (s3.2.1 + 1), s3.2.2.1, ()))
  | .ret s3 =>
   some (.fin (.ret (s3.1, ())))
 else
 some (.fin (.out ()))
def r11_Right_s3 (x : r11_Right_h3.T) : Option (SRes r11_Right_h3 r11_Right_o3 r11_Right_e3) := r11_Right_s3r x.1 x.2.1 x.2.2.1
def r11_Right_l3 (x : r11_Right_h3.T) : Option (LRes r11_Right_o3 r11_Right_e3) := iterL r11_Right_s3 9223372036854775808 x
def r11_Right_r (a0 : Heap) (a1 : List (List Int)) : Option (Bool × Unit) :=
 (r11_Right_l3 (a1, 0, a0, ())).bind fun s4 => match s4 with
 | .out s4 =>
  some (true, ())
 | .ret s4 =>
  some (s4.1, ())
def r11_Right (x : Heap × (List (List Int)) × Unit) : Option (Bool × Unit) := r11_Right_r x.1 x.2.1
def r11_Right_sm : Sum := ⟨(.cons cHeap (.cons (.sl (.arr 4 cI)) .nil)), (.cons (.d .bool) .nil), r11_Right⟩
def r11_Right_L0 : LoopSum := { hc := ⟨[], [1, 2, 5, 6, 7, 8, 9, 10], [], [], [0], [], 864⟩, h := ⟨[(1, (.d (.sl (.arr 4 cI)))), (2, (.pvar 0 [])), (5, (.d cI)), (6, (.d cI)), (7, (.d cI)), (8, (.d cI)), (9, (.d cI)), (10, (.d cI))], [(0, (.d cHeap))], [], 864⟩, xid := 6, oc := ⟨[], [1, 2, 5, 6, 7, 8, 9], [], [], [0], [], 864⟩, o := ⟨[(1, (.d (.sl (.arr 4 cI)))), (2, (.pvar 0 [])), (5, (.d cI)), (6, (.d cI)), (7, (.d cI)), (8, (.d cI)), (9, (.d cI))], [(0, (.d cHeap))], [], 864⟩, rc := ⟨[], [], [], [], [864], [], 864⟩, r := ⟨[], [], [], 864⟩, F := r11_Right_l0 }
def r11_Right_L1 : LoopSum := { hc := ⟨[], [1, 2, 5, 6, 7, 8, 9], [], [], [0], [], 784⟩, h := ⟨[(1, (.d (.sl (.arr 4 cI)))), (2, (.pvar 0 [])), (5, (.d cI)), (6, (.d cI)), (7, (.d cI)), (8, (.d cI)), (9, (.d cI))], [(0, (.d cHeap))], [], 784⟩, xid := 4, oc := ⟨[], [1, 2, 5, 6, 8], [], [], [0], [], 784⟩, o := ⟨[(1, (.d (.sl (.arr 4 cI)))), (2, (.pvar 0 [])), (5, (.d cI)), (6, (.d cI)), (8, (.d cI))], [(0, (.d cHeap))], [], 784⟩, rc := ⟨[], [], [], [], [784], [], 784⟩, r := ⟨[], [], [], 784⟩, F := r11_Right_l1 }
def r11_Right_L2 : LoopSum := { hc := ⟨[], [1, 2, 5, 6], [], [], [0], [], 128⟩, h := ⟨[(1, (.d (.sl (.arr 4 cI)))), (2, (.pvar 0 [])), (5, (.d cI)), (6, (.d cI))], [(0, (.d cHeap))], [], 128⟩, xid := 2, oc := ⟨[], [1, 2, 5], [], [], [0], [], 128⟩, o := ⟨[(1, (.d (.sl (.arr 4 cI)))), (2, (.pvar 0 [])), (5, (.d cI))], [(0, (.d cHeap))], [], 128⟩, rc := ⟨[], [4], [], [], [], [], 128⟩, r := ⟨[(4, (.d .bool))], [], [], 128⟩, F := r11_Right_l2 }
def r11_Right_L3 : LoopSum := { hc := ⟨[], [1, 2, 5], [], [], [0], [], 48⟩, h := ⟨[(1, (.d (.sl (.arr 4 cI)))), (2, (.pvar 0 [])), (5, (.d cI))], [(0, (.d cHeap))], [], 48⟩, xid := 0, oc := ⟨[], [], [], [], [], [], 48⟩, o := ⟨[], [], [], 48⟩, rc := ⟨[], [4], [], [], [], [], 48⟩, r := ⟨[(4, (.d .bool))], [], [], 48⟩, F := r11_Right_l3 }
def r11_Right_c : Ctx := ⟨[], [], [⟨8, 43, 0, 6, r11_Right_L0⟩, ⟨8, 43, 0, 4, r11_Right_L1⟩, ⟨8, 43, 0, 2, r11_Right_L2⟩, ⟨8, 43, 0, 0, r11_Right_L3⟩]⟩
theorem r11_Right_sem : SemOf Tryz.prog 43 r11_Right_sm := semC (c := r11_Right_c) Tryz.func43 an an (ec (aeC [true, false, true, false, false, true, false, false, true, false, false, true, false, false, true, true, true, true, false, true, false, false, true, false, false, true, false, false] r11_Right_s0 Tryz.func43) (ec (aeC [true, false, true, false, false, true, false, false, true, false, false, true, false, false, true, true, true, true, false, true, false, false] r11_Right_s1 Tryz.func43) (ec (aeC [true, false, true, false, false, true, false, false, true, false, false] r11_Right_s2 Tryz.func43) (ec (aeC [true, false, true, false, false] r11_Right_s3 Tryz.func43) an)))) 8
abbrev r20_Caches_h0 : U := (.cons cI (.cons cWrld (.cons (.sl (.arr 4 cI)) .nil)))
abbrev r20_Caches_o0 : U := (.cons (.sl (.arr 4 cI)) .nil)
abbrev r20_Caches_e0 : U := .nil
def r20_Caches_s0r (v4 : Int) (c0 : Wrld) (r64 : List (List Int)) : Option (SRes r20_Caches_h0 r20_Caches_o0 r20_Caches_e0) :=
 bif decide (v4 < (c0.2.2.1.length : Int)) then
  bif decide (0 ≤ v4) then
   bif decide (v4 < (c0.2.2.1.length : Int)) then
    bif decide ((r64.length + 1) * 32 ≤ 140737488355328) then
     some (.next (wi64 (v4 + 1), c0, r64 ++ [(c0.2.2.1.getD v4.toNat ([], 0, (0, 0, 0, 0, ()), 0, (0, 0, ()), List.replicate 4 0, ())).2.2.2.2.2.1], ()))
    else none
   else none
  else none
 else
 some (.fin (.out (r64, ())))
def r20_Caches_s0 (x : r20_Caches_h0.T) : Option (SRes r20_Caches_h0 r20_Caches_o0 r20_Caches_e0) := r20_Caches_s0r x.1 x.2.1 x.2.2.1
def r20_Caches_l0 (x : r20_Caches_h0.T) : Option (LRes r20_Caches_o0 r20_Caches_e0) := iterL r20_Caches_s0 9223372036854775808 x
def r20_Caches_r (a0 : Wrld) : Option ((List (List Int)) × Unit) :=
 (r20_Caches_l0 (0, a0, [], ())).bind fun s1 => match s1 with
 | .out s1 =>
  some (s1.1, ())
 | .ret s1 =>
  none
def r20_Caches (x : Wrld × Unit) : Option ((List (List Int)) × Unit) := r20_Caches_r x.1
def r20_Caches_sm : Sum := ⟨(.cons cWrld .nil), (.cons (.own (.arr 4 cI)) .nil), r20_Caches⟩
def r20_Caches_L0 : LoopSum := { hc := ⟨[], [1, 3, 4], [(.tmp 3, (.arr 4 cI))], [], [0], [], 64⟩, h := ⟨[(1, (.pvar 0 [])), (3, (.row 64)), (4, (.d cI))], [(0, (.d cWrld))], [(64, (.arr 4 cI), true)], 65⟩, xid := 0, oc := ⟨[], [3], [(.tmp 3, (.arr 4 cI))], [], [], [], 64⟩, o := ⟨[(3, (.row 64))], [], [(64, (.arr 4 cI), true)], 65⟩, rc := ⟨[], [], [], [], [64], [], 64⟩, r := ⟨[], [], [], 64⟩, F := r20_Caches_l0 }
def r20_Caches_c : Ctx := ⟨[], [], [⟨8, 44, 0, 0, r20_Caches_L0⟩]⟩
theorem r20_Caches_sem : SemOf Tryz.prog 44 r20_Caches_sm := semC (c := r20_Caches_c) Tryz.func44 an an (ec (aeC [true, true, false, true, false, false] r20_Caches_s0 Tryz.func44) an) 8
abbrev r13_Right_h0 : U := (.cons cI (.cons cGrey .nil))
abbrev r13_Right_o0 : U := .nil
abbrev r13_Right_e0 : U := (.cons .bool .nil)
def r13_Right_s0r (v3 : Int) (c0 : Grey) : Option (SRes r13_Right_h0 r13_Right_o0 r13_Right_e0) :=
 bif decide (v3 < (c0.2.1.length : Int)) then
  bif decide (0 ≤ v3) then
   bif decide (v3 < (c0.2.1.length : Int)) then
    bif decide ((c0.2.1.getD v3.toNat 0) < 0) then
     some (.fin (.ret (false, ())))
    else
    some (.next (wi64 (v3 + 1), c0, ()))
   else none
  else none
 else
 some (.fin (.out ()))
def r13_Right_s0 (x : r13_Right_h0.T) : Option (SRes r13_Right_h0 r13_Right_o0 r13_Right_e0) := r13_Right_s0r x.1 x.2.1
def r13_Right_l0 (x : r13_Right_h0.T) : Option (LRes r13_Right_o0 r13_Right_e0) := iterL r13_Right_s0 9223372036854775808 x
def r13_Right_r (a0 : Grey) : Option (Bool × Unit) :=
 bif decide (a0.1 < 0) then
  some (false, ())
 else
 bif decide (a0.1 > 16) then
  some (false, ())
 else
 bif decide ((a0.2.1.length : Int) > a0.1) then
  some (false, ())
 else
 (r13_Right_l0 (0, a0, ())).bind fun s1 => match s1 with
 | .out s1 =>
  some (true, ())
 | .ret s1 =>
  some (s1.1, ())
def r13_Right (x : Grey × Unit) : Option (Bool × Unit) := r13_Right_r x.1
def r13_Right_sm : Sum := ⟨(.cons cGrey .nil), (.cons (.d .bool) .nil), r13_Right⟩
def r13_Right_L0 : LoopSum := { hc := ⟨[], [1, 3], [], [], [0], [], 304⟩, h := ⟨[(1, (.pvar 0 [])), (3, (.d cI))], [(0, (.d cGrey))], [], 304⟩, xid := 0, oc := ⟨[], [], [], [], [], [], 304⟩, o := ⟨[], [], [], 304⟩, rc := ⟨[], [2], [], [], [], [], 304⟩, r := ⟨[(2, (.d .bool))], [], [], 304⟩, F := r13_Right_l0 }
def r13_Right_c : Ctx := ⟨[], [], [⟨8, 85, 0, 0, r13_Right_L0⟩]⟩
theorem r13_Right_sem : SemOf Tryz.prog 85 r13_Right_sm := semC (c := r13_Right_c) Tryz.func85 an an (ec (aeC [true, true, false, true, false, false] r13_Right_s0 Tryz.func85) an) 8
abbrev r04_Words_h0 : U := (.cons cI cVal)
abbrev r04_Words_o0 : U := (.cons cI .nil)
abbrev r04_Words_e0 : U := .nil
def r04_Words_s0r (v0 : Int) (v3 : Int) (v4 : Int) : Option (SRes r04_Words_h0 r04_Words_o0 r04_Words_e0) :=
 bif decide (v4 < v0) then
  some (.next (v0, wi64 (2 * v3), wi64 (v4 + 1), ()))
 else
 some (.fin (.out (v3, ())))
def r04_Words_s0 (x : r04_Words_h0.T) : Option (SRes r04_Words_h0 r04_Words_o0 r04_Words_e0) := r04_Words_s0r x.1 x.2.1 x.2.2.1
def r04_Words_l0 (x : r04_Words_h0.T) : Option (LRes r04_Words_o0 r04_Words_e0) := iterL r04_Words_s0 9223372036854775808 x
def r04_Words_r (a0 : Int) : Option (Int × Unit) :=
 bif decide (a0 < 0) then
  some (0, ())
 else
 bif decide (a0 > 3) then
  some (0, ())
 else
 (r04_Words_l0 (a0, 2, 0, ())).bind fun s1 => match s1 with
 | .out s1 =>
  some (s1.1, ())
 | .ret s1 =>
  none
def r04_Words (x : Int × Unit) : Option (Int × Unit) := r04_Words_r x.1
def r04_Words_sm : Sum := ⟨(.cons cI .nil), (.cons (.d cI) .nil), r04_Words⟩
def r04_Words_L0 : LoopSum := { hc := ⟨[], [0, 3, 4], [], [], [], [], 144⟩, h := ⟨[(0, (.d cI)), (3, (.d cI)), (4, (.d cI))], [], [], 144⟩, xid := 0, oc := ⟨[], [3], [], [], [], [], 144⟩, o := ⟨[(3, (.d cI))], [], [], 144⟩, rc := ⟨[], [], [], [], [144], [], 144⟩, r := ⟨[], [], [], 144⟩, F := r04_Words_l0 }
def r04_Words_c : Ctx := ⟨[], [], [⟨8, 47, 0, 0, r04_Words_L0⟩]⟩
theorem r04_Words_sem : SemOf Tryz.prog 47 r04_Words_sm := semC (c := r04_Words_c) Tryz.func47 an an (ec (aeC [true, true, true, false, true, false, false] r04_Words_s0 Tryz.func47) an) 8
abbrev r07_Find_h0 : U := (.cons cI (.cons cI (.cons cI (.cons cHeap .nil))))
abbrev r07_Find_o0 : U := (.cons cI (.cons cI (.cons cHeap .nil)))
abbrev r07_Find_e0 : U := (.cons cI (.cons cI (.cons .bool .nil)))
def r07_Find_s0r (v1 : Int) (v7 : Int) (v8 : Int) (c0 : Heap) : Option (SRes r07_Find_h0 r07_Find_o0 r07_Find_e0) :=
 bif decide (0 ≤ v7) then
  bif decide (v7 < (c0.2.1.length : Int)) then
   (r04_Blocks ((c0.2.1.getD v7.toNat (0, 0, 0, ())).2.1, ())).bind fun y1 =>
   bif decide (v8 < y1.1) then
    bif decide (0 ≤ v7) then
     bif decide (v7 < (c0.2.1.length : Int)) then
      (r04_Words ((c0.2.1.getD v7.toNat (0, 0, 0, ())).2.1, ())).bind fun y2 =>
      bif (wi64 ((wi64 (32 * v7)) + (wi64 (v8 * y2.1)))) == v1 then
       some (.fin (.ret (v7, v8, true, ())))
      else
      some (.next (v1, v7, wi64 (v8 + 1), c0, ()))
     else none
    else none
   else
   some (.fin (.out (v1, v7, c0, ())))
  else none
 else none
def r07_Find_s0 (x : r07_Find_h0.T) : Option (SRes r07_Find_h0 r07_Find_o0 r07_Find_e0) := r07_Find_s0r x.1 x.2.1 x.2.2.1 x.2.2.2.1
def r07_Find_l0 (x : r07_Find_h0.T) : Option (LRes r07_Find_o0 r07_Find_e0) := iterL r07_Find_s0 9223372036854775808 x
abbrev r07_Find_h1 : U := (.cons cI (.cons cI (.cons cHeap .nil)))
abbrev r07_Find_o1 : U := .nil
abbrev r07_Find_e1 : U := (.cons cI (.cons cI (.cons .bool .nil)))
def r07_Find_s1r (v1 : Int) (v7 : Int) (c0 : Heap) : Option (SRes r07_Find_h1 r07_Find_o1 r07_Find_e1) :=
 bif decide (v7 < (c0.2.1.length : Int)) then
  bif decide (0 ≤ v7) then
   bif decide (v7 < (c0.2.1.length : Int)) then
    bif (c0.2.1.getD v7.toNat (0, 0, 0, ())).1 == 0 then
     some (.next (v1, wi64 (v7 + 1), c0, ()))
    else
    (r07_Find_l0 (v1, v7, 0, c0, ())).bind fun s3 => match s3 with
    | .out s3 =>
     some (.next (s3.1, wi64 (s3.2.1 + 1), s3.2.2.1, ()))
    | .ret s3 =>
     some (.fin (.ret (s3.1, s3.2.1, s3.2.2.1, ())))
   else none
  else none
 else
 some (.fin (.out ()))
def r07_Find_s1 (x : r07_Find_h1.T) : Option (SRes r07_Find_h1 r07_Find_o1 r07_Find_e1) := r07_Find_s1r x.1 x.2.1 x.2.2.1
def r07_Find_l1 (x : r07_Find_h1.T) : Option (LRes r07_Find_o1 r07_Find_e1) := iterL r07_Find_s1 9223372036854775808 x
def r07_Find_r (a0 : Heap) (a1 : Int) : Option (Int × Int × Bool × Unit) :=
 (r07_Find_l1 (a1, 0, a0, ())).bind fun s4 => match s4 with
 | .out s4 =>
  some (0, 0, false, ())
 | .ret s4 =>
  some (s4.1, s4.2.1, s4.2.2.1, ())
def r07_Find (x : Heap × Int × Unit) : Option (Int × Int × Bool × Unit) := r07_Find_r x.1 x.2.1
def r07_Find_sm : Sum := ⟨(.cons cHeap (.cons cI .nil)), (.cons (.d cI) (.cons (.d cI) (.cons (.d .bool) .nil))), r07_Find⟩
def r07_Find_L0 : LoopSum := { hc := ⟨[], [1, 2, 7, 8], [], [], [0], [], 288⟩, h := ⟨[(1, (.d cI)), (2, (.pvar 0 [])), (7, (.d cI)), (8, (.d cI))], [(0, (.d cHeap))], [], 288⟩, xid := 2, oc := ⟨[], [1, 2, 7], [], [], [0], [], 288⟩, o := ⟨[(1, (.d cI)), (2, (.pvar 0 [])), (7, (.d cI))], [(0, (.d cHeap))], [], 288⟩, rc := ⟨[], [4, 5, 6], [], [], [], [], 288⟩, r := ⟨[(4, (.d cI)), (5, (.d cI)), (6, (.d .bool))], [], [], 288⟩, F := r07_Find_l0 }
def r07_Find_L1 : LoopSum := { hc := ⟨[], [1, 2, 7], [], [], [0], [], 80⟩, h := ⟨[(1, (.d cI)), (2, (.pvar 0 [])), (7, (.d cI))], [(0, (.d cHeap))], [], 80⟩, xid := 0, oc := ⟨[], [], [], [], [], [], 80⟩, o := ⟨[], [], [], 80⟩, rc := ⟨[], [4, 5, 6], [], [], [], [], 80⟩, r := ⟨[(4, (.d cI)), (5, (.d cI)), (6, (.d .bool))], [], [], 80⟩, F := r07_Find_l1 }
def r07_Find_c : Ctx := ⟨[(47, r04_Words_sm), (48, r04_Blocks_sm)], [], [⟨8, 87, 0, 2, r07_Find_L0⟩, ⟨8, 87, 0, 0, r07_Find_L1⟩]⟩
theorem r07_Find_sem : SemOf Tryz.prog 87 r07_Find_sm := semC (c := r07_Find_c) Tryz.func87 (sc r04_Words_sem (sc r04_Blocks_sem an)) an (ec (aeC [true, false, true, false, false, true, false, false, true, true, false, false] r07_Find_s0 Tryz.func87) (ec (aeC [true, false, true, false, false] r07_Find_s1 Tryz.func87) an)) 8
end
end Go.Proofs.YtbkjmefhenpmlaaGreatDoor.Den
