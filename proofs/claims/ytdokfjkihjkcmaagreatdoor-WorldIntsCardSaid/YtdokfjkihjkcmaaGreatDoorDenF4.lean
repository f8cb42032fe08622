/- What functions come to. Printed by a program of this session. -/
import Derived.Test.YtdokfjkihjkcmaaGreatDoorDenF3
namespace Go.Proofs.YtdokfjkihjkcmaaGreatDoor.Den
open Go
set_option maxRecDepth 100000
set_option linter.unusedVariables false
noncomputable section
def sound_Check_r (a0 : Heap) : Option (Int × Unit) :=
 (sound_whole_formed ((a0, ()), ())).bind fun y1 =>
 bif !y1.1 then
  some (1, ())
 else
 (sound_whole_filled ((a0, ()), ())).bind fun y2 =>
 bif !y2.1 then
  some (2, ())
 else
 (sound_whole_behind ((a0, ()), ())).bind fun y3 =>
 bif !y3.1 then
  some (3, ())
 else
 (sound_whole_referred ((a0, ()), ())).bind fun y4 =>
 bif !y4.1 then
  some (4, ())
 else
 some (0, ())
def sound_Check (x : Heap × Unit) : Option (Int × Unit) := sound_Check_r x.1
def sound_Check_sm : Sum := ⟨(.cons cHeap .nil), (.cons (.d cI) .nil), sound_Check⟩
def sound_Check_c : Ctx := ⟨[(52, sound_whole_formed_sm), (53, sound_whole_filled_sm), (54, sound_whole_behind_sm), (55, sound_whole_referred_sm)], [], []⟩
theorem sound_Check_sem : SemOf Tryz.prog 38 sound_Check_sm := semC (c := sound_Check_c) Tryz.func38 (sc sound_whole_formed_sem (sc sound_whole_filled_sem (sc sound_whole_behind_sem (sc sound_whole_referred_sem an)))) an an 8
def sound_Ok_r (a0 : Heap) : Option (Bool × Unit) :=
 (sound_Check (a0, ())).bind fun y1 =>
 some (y1.1 == 0, ())
def sound_Ok (x : Heap × Unit) : Option (Bool × Unit) := sound_Ok_r x.1
def sound_Ok_sm : Sum := ⟨(.cons cHeap .nil), (.cons (.d .bool) .nil), sound_Ok⟩
def sound_Ok_c : Ctx := ⟨[(38, sound_Check_sm)], [], []⟩
theorem sound_Ok_sem : SemOf Tryz.prog 20 sound_Ok_sm := semC (c := sound_Ok_c) Tryz.func20 (sc sound_Check_sem an) an an 8
def world_ready_r (a0 : Mut) (a1 : Int) : Option (Bool × Unit) :=
 bif a0.2.1 == 0 then
  some (true, ())
 else
 bif a0.2.1 == 4 then
  some (true, ())
 else
 bif a0.2.1 == 1 then
  bif !(decide ((a0.1.length : Int) ≥ a1)) then
   bif decide (a0.2.2.1.2.1 ≥ 0) then
    some (decide (a0.2.2.1.2.1 ≤ 15), ())
   else
   some (false, ())
  else
  some (false, ())
 else
 bif a0.2.1 == 2 then
  some (!(decide ((a0.1.length : Int) ≥ a1)), ())
 else
 bif a0.2.1 == 3 then
  some (!(decide ((a0.1.length : Int) ≥ a1)), ())
 else
 some (false, ())
def world_ready (x : Mut × Int × Unit) : Option (Bool × Unit) := world_ready_r x.1 x.2.1
def world_ready_sm : Sum := ⟨(.cons cMut (.cons cI .nil)), (.cons (.d .bool) .nil), world_ready⟩
def world_ready_c : Ctx := ⟨[], [], []⟩
theorem world_ready_sem : SemOf Tryz.prog 23 world_ready_sm := semC (c := world_ready_c) Tryz.func23 an an an 8
abbrev world_Whole_h0 : U := (.cons (.sl cMut) (.cons cI (.cons cI (.cons cWrld .nil))))
abbrev world_Whole_o0 : U := .nil
abbrev world_Whole_e0 : U := (.cons cI .nil)
def world_Whole_s0r (v0 : List Mut) (v7 : Int) (v8 : Int) (c0 : Wrld) : Option (SRes world_Whole_h0 world_Whole_o0 world_Whole_e0) :=
 bif decide (v8 < v7) then
  bif decide (0 ≤ v8) then
   bif decide (v8 < (v0.length : Int)) then
    (world_ready (v0.getD v8.toNat ([], 0, (0, 0, 0, 0, ()), 0, (0, 0, ()), List.replicate 4 0, ()), c0.1.2.2.1, ())).bind fun y3 =>
    bif !y3.1 then
     some (.fin (.ret (v8, ())))
    else
    some (.next (v0, v7, wi64 (v8 + 1), c0, ()))
   else none
  else none
 else
 some (.fin (.out ()))
def world_Whole_s0 (x : world_Whole_h0.T) : Option (SRes world_Whole_h0 world_Whole_o0 world_Whole_e0) := world_Whole_s0r x.1 x.2.1 x.2.2.1 x.2.2.2.1
def world_Whole_l0 (x : world_Whole_h0.T) : Option (LRes world_Whole_o0 world_Whole_e0) := iterL world_Whole_s0 9223372036854775808 x
def world_Whole_r (a0 : Wrld) : Option (Bool × Unit) :=
 (cycle_Form (a0, ())).bind fun y1 =>
 bif y1.1 then
  (sound_Ok (a0.2.1, ())).bind fun y2 =>
  bif y2.1 then
   (world_Whole_l0 (a0.2.2.1, (a0.2.2.1.length : Int), 0, a0, ())).bind fun s4 => match s4 with
   | .out s4 =>
    some (true, ())
   | .ret s4 =>
    some (!(decide (s4.1 ≥ 0)), ())
  else
  some (false, ())
 else
 some (false, ())
def world_Whole (x : Wrld × Unit) : Option (Bool × Unit) := world_Whole_r x.1
def world_Whole_sm : Sum := ⟨(.cons cWrld .nil), (.cons (.d .bool) .nil), world_Whole⟩
def world_Whole_L0 : LoopSum := { hc := ⟨[], [0, 1, 7, 8], [], [], [0], [], 432⟩, h := ⟨[(0, (.d (.sl cMut))), (1, (.fn 22 .nil (.cons (.pvar 0 []) .nil))), (7, (.d cI)), (8, (.d cI))], [(0, (.d cWrld))], [], 432, false⟩, xid := 0, oc := ⟨[], [], [], [], [], [], 432⟩, o := ⟨[], [], [], 432, false⟩, rc := ⟨[], [4], [], [], [], [], 432⟩, r := ⟨[(4, (.d cI))], [], [], 432, false⟩, F := world_Whole_l0 }
def world_Whole_c : Ctx := ⟨[(19, cycle_Form_sm), (20, sound_Ok_sm), (23, world_ready_sm)], [(21, Tryz.f21), (22, Tryz.f22), (39, Tryz.f39)], [⟨6, 39, 368, 0, world_Whole_L0⟩]⟩
theorem world_Whole_sem : SemOf Tryz.prog 11 world_Whole_sm := semC (c := world_Whole_c) Tryz.func11 (sc cycle_Form_sem (sc sound_Ok_sem (sc world_ready_sem an))) (fc (flC Tryz.func21) (fc (flC Tryz.func22) (fc (flC Tryz.func39) an))) (ec (aeC [true, false, true, false, false] world_Whole_s0 Tryz.func39) an) 8
def w22_awake_r  : Option (Bool × Unit) :=
 (world_New ((1, 1, 2, 1, 1, ()), ())).bind fun y1 =>
 (world_New ((0, 0, 0, 0, 0, ()), ())).bind fun y2 =>
 (world_Pick ((y1.1.1, (y1.1.2.1.1, y1.1.2.1.2.1, y1.1.2.1.2.2), y1.1.2.2.1, ((y1.1.2.2.2.1.1.1, y1.1.2.2.2.1.1.2.1, y1.1.2.2.2.1.1.2.2), y1.1.2.2.2.1.2.1, y1.1.2.2.2.1.2.2.1, y1.1.2.2.2.1.2.2.2), y1.1.2.2.2.2.1, y1.1.2.2.2.2.2.1, y1.1.2.2.2.2.2.2.1, y1.1.2.2.2.2.2.2.2.1, y1.1.2.2.2.2.2.2.2.2), (9, (0, 0, 0, 0, ()), ()), ())).bind fun y3 =>
 (world_Pick ((y1.1.1, (y1.1.2.1.1, y1.1.2.1.2.1, y1.1.2.1.2.2), y1.1.2.2.1, ((y1.1.2.2.2.1.1.1, y1.1.2.2.2.1.1.2.1, y1.1.2.2.2.1.1.2.2), y1.1.2.2.2.1.2.1, y1.1.2.2.2.1.2.2.1, y1.1.2.2.2.1.2.2.2), y1.1.2.2.2.2.1, y1.1.2.2.2.2.2.1, y1.1.2.2.2.2.2.2.1, y1.1.2.2.2.2.2.2.2.1, y1.1.2.2.2.2.2.2.2.2), ((-1), (0, 0, 0, 0, ()), ()), ())).bind fun y4 =>
 (world_Run ((y1.1.1, (y1.1.2.1.1, y1.1.2.1.2.1, y1.1.2.1.2.2), y1.1.2.2.1, ((y1.1.2.2.2.1.1.1, y1.1.2.2.2.1.1.2.1, y1.1.2.2.2.1.1.2.2), y1.1.2.2.2.1.2.1, y1.1.2.2.2.1.2.2.1, y1.1.2.2.2.1.2.2.2), y1.1.2.2.2.2.1, y1.1.2.2.2.2.2.1, y1.1.2.2.2.2.2.2.1, y1.1.2.2.2.2.2.2.2.1, y1.1.2.2.2.2.2.2.2.2), [(0, (6, 0, 0, 0, ()), ()), ((-1), (0, 0, 0, 0, ()), ())], ())).bind fun y5 =>
 bif y1.2.1 == 0 then
  bif y2.2.1 == 1 then
   (r22_New ((1, 1, 2, 1, 1, ()), ())).bind fun y6 =>
   (r20_Same ((y1.1.1, (y1.1.2.1.1, y1.1.2.1.2.1, y1.1.2.1.2.2), y1.1.2.2.1, ((y1.1.2.2.2.1.1.1, y1.1.2.2.2.1.1.2.1, y1.1.2.2.2.1.1.2.2), y1.1.2.2.2.1.2.1, y1.1.2.2.2.1.2.2.1, y1.1.2.2.2.1.2.2.2), y1.1.2.2.2.2.1, y1.1.2.2.2.2.2.1, y1.1.2.2.2.2.2.2.1, y1.1.2.2.2.2.2.2.2.1, y1.1.2.2.2.2.2.2.2.2), (y6.1.1, (y6.1.2.1.1, y6.1.2.1.2.1, y6.1.2.1.2.2), y6.1.2.2.1, ((y6.1.2.2.2.1.1.1, y6.1.2.2.2.1.1.2.1, y6.1.2.2.2.1.1.2.2), y6.1.2.2.2.1.2.1, y6.1.2.2.2.1.2.2.1, y6.1.2.2.2.1.2.2.2), y6.1.2.2.2.2.1, y6.1.2.2.2.2.2.1, y6.1.2.2.2.2.2.2.1, y6.1.2.2.2.2.2.2.2.1, y6.1.2.2.2.2.2.2.2.2), ())).bind fun y7 =>
   bif y7.1 then
    bif (y3.2.1.1 == 9) && ((y3.2.1.2.1 == 0) && ((y3.2.1.2.2.1 == 1) && (((y3.2.1.2.2.2.1.1 == 0) && ((y3.2.1.2.2.2.1.2.1 == 0) && true)) && true))) then
     bif (y4.2.1.1 == (-1)) && ((y4.2.1.2.1 == 0) && ((y4.2.1.2.2.1 == 0) && (((y4.2.1.2.2.2.1.1 == 0) && ((y4.2.1.2.2.2.1.2.1 == 0) && true)) && true))) then
      bif (y5.2.1.length : Int) == 2 then
       bif decide (1 < (y5.2.1.length : Int)) then
        bif ((y5.2.1.getD 1 (0, 0, 0, (0, 0, ()), ())).1 == (-1)) && (((y5.2.1.getD 1 (0, 0, 0, (0, 0, ()), ())).2.1 == 3) && (((y5.2.1.getD 1 (0, 0, 0, (0, 0, ()), ())).2.2.1 == 0) && ((((y5.2.1.getD 1 (0, 0, 0, (0, 0, ()), ())).2.2.2.1.1 == 0) && (((y5.2.1.getD 1 (0, 0, 0, (0, 0, ()), ())).2.2.2.1.2.1 == 0) && true)) && true))) then
         bif y5.1.2.2.2.2.1 == 1 then
          (world_Whole ((y1.1.1, (y1.1.2.1.1, y1.1.2.1.2.1, y1.1.2.1.2.2), y1.1.2.2.1, ((y1.1.2.2.2.1.1.1, y1.1.2.2.2.1.1.2.1, y1.1.2.2.2.1.1.2.2), y1.1.2.2.2.1.2.1, y1.1.2.2.2.1.2.2.1, y1.1.2.2.2.1.2.2.2), y1.1.2.2.2.2.1, y1.1.2.2.2.2.2.1, y1.1.2.2.2.2.2.2.1, y1.1.2.2.2.2.2.2.2.1, y1.1.2.2.2.2.2.2.2.2), ())).bind fun y8 =>
          bif y8.1 then
           (world_Whole (((0, 0, 0, 0, 0, ()), ([], [], false, ()), [], ((0, [], ()), [], [], 0, 0, 0, false, ()), 0, false, 0, [], ()), ())).bind fun y9 =>
           some (!y9.1, ())
          else
          some (false, ())
         else
         some (false, ())
        else
        some (false, ())
       else none
      else
      some (false, ())
     else
     some (false, ())
    else
    some (false, ())
   else
   some (false, ())
  else
  some (false, ())
 else
 some (false, ())
def w22_awake (x : Unit) : Option (Bool × Unit) := w22_awake_r 
def w22_awake_sm : Sum := ⟨.nil, (.cons (.d .bool) .nil), w22_awake⟩
def w22_awake_c : Ctx := ⟨[(6, world_New_sm), (7, world_Pick_sm), (8, world_Run_sm), (9, r20_Same_sm), (10, r22_New_sm), (11, world_Whole_sm)], [], []⟩
theorem w22_awake_sem : SemOf Tryz.prog 4 w22_awake_sm := semC (c := w22_awake_c) Tryz.func4 (sc world_New_sem (sc world_Pick_sem (sc world_Run_sem (sc r20_Same_sem (sc r22_New_sem (sc world_Whole_sem an)))))) an an 8
def r20_May_r (a0 : Rep) : Option (Bool × Unit) :=
 bif decide (a0.1 < 1) then
  some (false, ())
 else
 bif decide (a0.1 > 16) then
  some (false, ())
 else
 bif decide (a0.2.1 < 1) then
  some (false, ())
 else
 bif decide (a0.2.1 > 8) then
  some (false, ())
 else
 bif decide (a0.2.2.1 < 1) then
  some (false, ())
 else
 bif decide (a0.2.2.1 > 8) then
  some (false, ())
 else
 bif decide (a0.2.2.2.1 ≥ 0) then
  bif decide (a0.2.2.2.1 ≤ 16) then
   bif decide (a0.2.2.2.2.1 ≥ 0) then
    some (decide (a0.2.2.2.2.1 ≤ 8), ())
   else
   some (false, ())
  else
  some (false, ())
 else
 some (false, ())
def r20_May (x : Rep × Unit) : Option (Bool × Unit) := r20_May_r x.1
def r20_May_sm : Sum := ⟨(.cons cRep .nil), (.cons (.d .bool) .nil), r20_May⟩
def r20_May_c : Ctx := ⟨[], [], []⟩
theorem r20_May_sem : SemOf Tryz.prog 5 r20_May_sm := semC (c := r20_May_c) Tryz.func5 an an an 8
abbrev w22_WorldInts_h0 : U := (.cons (.sl (.int .u8)) (.cons cI (.cons cRep (.cons cWrld (.cons (.sl (.cons (.sl cI) .nil)) .nil)))))
abbrev w22_WorldInts_o0 : U := (.cons cRep (.cons cWrld (.cons (.sl (.cons (.sl cI) .nil)) .nil)))
abbrev w22_WorldInts_e0 : U := (.cons .bool .nil)
def w22_WorldInts_s0r (v1 : List Int) (v8 : Int) (c0 : Rep) (c384 : Wrld) (c464 : List ((List Int) × Unit)) : Option (SRes w22_WorldInts_h0 w22_WorldInts_o0 w22_WorldInts_e0) :=
 bif decide (v8 < (v1.length : Int)) then
  bif decide (0 ≤ v8) then
   bif decide (v8 < (v1.length : Int)) then
    bif c0.2.1 == 0 then none else
    bif decide (0 ≤ v8) then
     bif decide (v8 < (v1.length : Int)) then
      bif decide ((v1.getD v8.toNat 0) > 150) then
       (world_Pick (c384, ((wi64 (v1.getD v8.toNat 0)).tmod c0.2.1, (5, v8, 0, 0, ()), ()), ())).bind fun y8 =>
       bif y8.2.1.2.1 != 2 then
        some (.fin (.ret (false, ())))
       else
       bif decide (0 ≤ ((wi64 (v1.getD v8.toNat 0)).tmod c0.2.1)) then
        bif decide (((wi64 (v1.getD v8.toNat 0)).tmod c0.2.1) < (c464.length : Int)) then
         bif !((y8.2.1.2.2.1 == 0) == (decide ((((c464.getD ((wi64 (v1.getD v8.toNat 0)).tmod c0.2.1).toNat ([], ())).1.length : Nat) : Int) > 0))) then
          some (.fin (.ret (false, ())))
         else
         bif y8.2.1.2.2.1 == 0 then
          bif decide (0 ≤ ((wi64 (v1.getD v8.toNat 0)).tmod c0.2.1)) then
           bif decide (((wi64 (v1.getD v8.toNat 0)).tmod c0.2.1) < (c464.length : Int)) then
            bif decide (0 ≤ ((wi64 (v1.getD v8.toNat 0)).tmod c0.2.1)) then
             bif decide (((wi64 (v1.getD v8.toNat 0)).tmod c0.2.1) < (c464.length : Int)) then
              bif decide (0 ≤ (wi64 ((((c464.getD ((wi64 (v1.getD v8.toNat 0)).tmod c0.2.1).toNat ([], ())).1.length : Nat) : Int) - 1))) then
               bif decide ((wi64 ((((c464.getD ((wi64 (v1.getD v8.toNat 0)).tmod c0.2.1).toNat ([], ())).1.length : Nat) : Int) - 1)) ≤ (((c464.getD ((wi64 (v1.getD v8.toNat 0)).tmod c0.2.1).toNat ([], ())).1.length : Nat) : Int)) then
                bif decide (0 ≤ ((wi64 (v1.getD v8.toNat 0)).tmod c0.2.1)) then
                 bif decide (((wi64 (v1.getD v8.toNat 0)).tmod c0.2.1) < (c464.length : Int)) then
                  bif Nat.beq ((wi64 (v1.getD v8.toNat 0)).tmod c0.2.1).toNat ((wi64 (v1.getD v8.toNat 0)).tmod c0.2.1).toNat then
                   some (.next (v1, wi64 (v8 + 1), c0, y8.1, c464.set ((wi64 (v1.getD v8.toNat 0)).tmod c0.2.1).toNat ((c464.getD ((wi64 (v1.getD v8.toNat 0)).tmod c0.2.1).toNat ([], ())).1.take (wi64 ((((c464.getD ((wi64 (v1.getD v8.toNat 0)).tmod c0.2.1).toNat ([], ())).1.length : Nat) : Int) - 1)).toNat, ()), ()))
                  else none
                 else none
                else none
               else none
              else none
             else none
            else none
           else none
          else none
         else
         some (.next (v1, wi64 (v8 + 1), c0, y8.1, c464, ()))
        else none
       else none
      else
      (world_Pick (c384, ((wi64 (v1.getD v8.toNat 0)).tmod c0.2.1, (4, v8, 0, 0, ()), ()), ())).bind fun y9 =>
      bif y9.2.1.2.1 != 2 then
       some (.fin (.ret (false, ())))
      else
      bif decide (0 ≤ ((wi64 (v1.getD v8.toNat 0)).tmod c0.2.1)) then
       bif decide (((wi64 (v1.getD v8.toNat 0)).tmod c0.2.1) < (c464.length : Int)) then
        bif !((y9.2.1.2.2.1 == 0) == (decide ((((c464.getD ((wi64 (v1.getD v8.toNat 0)).tmod c0.2.1).toNat ([], ())).1.length : Nat) : Int) < c0.2.2.1))) then
         some (.fin (.ret (false, ())))
        else
        bif y9.2.1.2.2.1 == 0 then
         bif decide (0 ≤ ((wi64 (v1.getD v8.toNat 0)).tmod c0.2.1)) then
          bif decide (((wi64 (v1.getD v8.toNat 0)).tmod c0.2.1) < (c464.length : Int)) then
           bif Nat.blt ((wi64 (v1.getD v8.toNat 0)).tmod c0.2.1).toNat c464.length then
            bif decide ((((c464.getD ((wi64 (v1.getD v8.toNat 0)).tmod c0.2.1).toNat ([], ())).1.take (c464.getD ((wi64 (v1.getD v8.toNat 0)).tmod c0.2.1).toNat ([], ())).1.length).length + 1) * 8 ≤ 140737488355328) then
             bif decide (0 ≤ ((wi64 (v1.getD v8.toNat 0)).tmod c0.2.1)) then
              bif decide (((wi64 (v1.getD v8.toNat 0)).tmod c0.2.1) < (c464.length : Int)) then
               bif Nat.beq ((wi64 (v1.getD v8.toNat 0)).tmod c0.2.1).toNat ((wi64 (v1.getD v8.toNat 0)).tmod c0.2.1).toNat then
                some (.next (v1, wi64 (v8 + 1), c0, y9.1, c464.set ((wi64 (v1.getD v8.toNat 0)).tmod c0.2.1).toNat (((c464.getD ((wi64 (v1.getD v8.toNat 0)).tmod c0.2.1).toNat ([], ())).1.take (c464.getD ((wi64 (v1.getD v8.toNat 0)).tmod c0.2.1).toNat ([], ())).1.length) ++ [v8], ()), ()))
               else none
              else none
             else none
            else none
           else none
          else none
         else none
        else
        some (.next (v1, wi64 (v8 + 1), c0, y9.1, c464, ()))
       else none
      else none
     else none
    else none
   else none
  else none
 else
 some (.fin (.out (c0, c384, c464, ())))
def w22_WorldInts_s0 (x : w22_WorldInts_h0.T) : Option (SRes w22_WorldInts_h0 w22_WorldInts_o0 w22_WorldInts_e0) := w22_WorldInts_s0r x.1 x.2.1 x.2.2.1 x.2.2.2.1 x.2.2.2.2.1
def w22_WorldInts_l0 (x : w22_WorldInts_h0.T) : Option (LRes w22_WorldInts_o0 w22_WorldInts_e0) := iterL w22_WorldInts_s0 9223372036854775808 x
abbrev w22_WorldInts_h1 : U := (.cons cI (.cons (.sl cVal) (.cons cI (.cons cRep (.cons cWrld (.cons (.sl (.cons (.sl cI) .nil)) .nil))))))
abbrev w22_WorldInts_o1 : U := (.cons cI (.cons cRep (.cons cWrld (.cons (.sl (.cons (.sl cI) .nil)) .nil))))
abbrev w22_WorldInts_e1 : U := (.cons .bool .nil)
def w22_WorldInts_s1r (v13 : Int) (v14 : List Val) (v15 : Int) (c0 : Rep) (c384 : Wrld) (c464 : List ((List Int) × Unit)) : Option (SRes w22_WorldInts_h1 w22_WorldInts_o1 w22_WorldInts_e1) :=
 bif decide (v15 < (v14.length : Int)) then
  bif decide (0 ≤ v15) then
   bif decide (v15 < (v14.length : Int)) then
    bif decide (0 ≤ v13) then
     bif decide (v13 < (c464.length : Int)) then
      bif decide (0 ≤ v15) then
       bif decide (v15 < (((c464.getD v13.toNat ([], ())).1.length : Nat) : Int)) then
        bif Nat.blt v13.toNat c464.length then
         bif Nat.blt v13.toNat c464.length then
          bif !(((v14.getD v15.toNat (0, 0, ())).1 == 1) && (((v14.getD v15.toNat (0, 0, ())).2.1 == ((c464.getD v13.toNat ([], ())).1.getD v15.toNat 0)) && true)) then
           some (.fin (.ret (false, ())))
          else
          some (.next (v13, v14, wi64 (v15 + 1), c0, c384, c464, ()))
         else none
        else none
       else none
      else none
     else none
    else none
   else none
  else none
 else
 some (.fin (.out (v13, c0, c384, c464, ())))
def w22_WorldInts_s1 (x : w22_WorldInts_h1.T) : Option (SRes w22_WorldInts_h1 w22_WorldInts_o1 w22_WorldInts_e1) := w22_WorldInts_s1r x.1 x.2.1 x.2.2.1 x.2.2.2.1 x.2.2.2.2.1 x.2.2.2.2.2.1
def w22_WorldInts_l1 (x : w22_WorldInts_h1.T) : Option (LRes w22_WorldInts_o1 w22_WorldInts_e1) := iterL w22_WorldInts_s1 9223372036854775808 x
abbrev w22_WorldInts_h2 : U := (.cons cI (.cons cRep (.cons cWrld (.cons (.sl (.cons (.sl cI) .nil)) .nil))))
abbrev w22_WorldInts_o2 : U := .nil
abbrev w22_WorldInts_e2 : U := (.cons .bool .nil)
def w22_WorldInts_s2r (v13 : Int) (c0 : Rep) (c384 : Wrld) (c464 : List ((List Int) × Unit)) : Option (SRes w22_WorldInts_h2 w22_WorldInts_o2 w22_WorldInts_e2) :=
 bif decide (v13 < c0.2.1) then
  bif decide (0 ≤ v13) then
   bif decide (v13 < (c384.2.2.1.length : Int)) then
    bif decide (0 ≤ v13) then
     bif decide (v13 < (c464.length : Int)) then
      bif ((c384.2.2.1.getD v13.toNat ([], 0, (0, 0, 0, 0, ()), 0, (0, 0, ()), List.replicate 4 0, ())).1.length : Int) != (((c464.getD v13.toNat ([], ())).1.length : Nat) : Int) then
       some (.fin (.ret (false, ())))
      else
      (w22_WorldInts_l1 (v13, (c384.2.2.1.getD v13.toNat ([], 0, (0, 0, 0, 0, ()), 0, (0, 0, ()), List.replicate 4 0, ())).1, 0, c0, c384, c464, ())).bind fun s11 => match s11 with
      | .out s11 =>
       some (.next (wi64 (s11.1 + 1), s11.2.1, s11.2.2.1, s11.2.2.2.1, ()))
      | .ret s11 =>
       some (.fin (.ret (s11.1, ())))
     else none
    else none
   else none
  else none
 else
 some (.fin (.out ()))
def w22_WorldInts_s2 (x : w22_WorldInts_h2.T) : Option (SRes w22_WorldInts_h2 w22_WorldInts_o2 w22_WorldInts_e2) := w22_WorldInts_s2r x.1 x.2.1 x.2.2.1 x.2.2.2.1
def w22_WorldInts_l2 (x : w22_WorldInts_h2.T) : Option (LRes w22_WorldInts_o2 w22_WorldInts_e2) := iterL w22_WorldInts_s2 9223372036854775808 x
def w22_WorldInts_r (a0 : Rep) (a1 : List Int) : Option (Bool × Unit) :=
 (w22_awake ()).bind fun y1 =>
 bif !y1.1 then
  (w22_awake ()).bind fun y2 =>
  some (y2.1, ())
 else
 (r20_May (a0, ())).bind fun y3 =>
 bif !y3.1 then
  (w22_awake ()).bind fun y4 =>
  some (y4.1, ())
 else
 bif decide (a0.1 > 4) then
  (w22_awake ()).bind fun y5 =>
  some (y5.1, ())
 else
 bif decide ((a1.length : Int) > 200) then
  (w22_awake ()).bind fun y6 =>
  some (y6.1, ())
 else
 (world_New (a0, ())).bind fun y7 =>
 bif a0.2.1 == a0.2.1 then
  bif decide (0 ≤ a0.2.1) then
   bif decide (a0.2.1.toNat * 24 ≤ 140737488355328) then
    (w22_WorldInts_l0 (a1, 0, a0, (y7.1.1, (y7.1.2.1.1, y7.1.2.1.2.1, y7.1.2.1.2.2), y7.1.2.2.1, ((y7.1.2.2.2.1.1.1, y7.1.2.2.2.1.1.2.1, y7.1.2.2.2.1.1.2.2), y7.1.2.2.2.1.2.1, y7.1.2.2.2.1.2.2.1, y7.1.2.2.2.1.2.2.2), y7.1.2.2.2.2.1, y7.1.2.2.2.2.2.1, y7.1.2.2.2.2.2.2.1, y7.1.2.2.2.2.2.2.2.1, y7.1.2.2.2.2.2.2.2.2), List.replicate a0.2.1.toNat (([], ()) : (List Int) × Unit), ())).bind fun s10 => match s10 with
    | .out s10 =>
     (w22_WorldInts_l2 (0, s10.1, s10.2.1, s10.2.2.1, ())).bind fun s12 => match s12 with
     | .out s12 =>
      some (true, ())
     | .ret s12 =>
      some (s12.1, ())
    | .ret s10 =>
     some (s10.1, ())
   else none
  else none
 else none
def w22_WorldInts (x : Rep × (List Int) × Unit) : Option (Bool × Unit) := w22_WorldInts_r x.1 x.2.1
def w22_WorldInts_sm : Sum := ⟨(.cons cRep (.cons (.sl (.int .u8)) .nil)), (.cons (.d .bool) .nil), w22_WorldInts⟩
def w22_WorldInts_L0 : LoopSum := { hc := ⟨[(.key 384 [], cWrld)], [1, 2, 5, 7, 8], [], [], [0, 384, 464], [], 512⟩, h := ⟨[(1, (.d (.sl (.int .u8)))), (2, (.pvar 0 [])), (5, (.pvar 384 [])), (7, (.row 464)), (8, (.d cI))], [(0, (.d cRep)), (384, (.d cWrld)), (464, (.drow cI .nil 976))], [], 1024, false⟩, xid := 0, oc := ⟨[], [2, 5, 7], [], [], [0, 384, 464], [], 512⟩, o := ⟨[(2, (.pvar 0 [])), (5, (.pvar 384 [])), (7, (.row 464))], [(0, (.d cRep)), (384, (.d cWrld)), (464, (.drow cI .nil 976))], [], 1024, false⟩, rc := ⟨[], [4], [], [], [], [], 512⟩, r := ⟨[(4, (.d .bool))], [], [], 512, false⟩, F := w22_WorldInts_l0 }
def w22_WorldInts_L1 : LoopSum := { hc := ⟨[], [2, 5, 7, 13, 14, 15], [], [], [0, 384, 464], [], 2400⟩, h := ⟨[(2, (.pvar 0 [])), (5, (.pvar 384 [])), (7, (.row 464)), (13, (.d cI)), (14, (.d (.sl cVal))), (15, (.d cI))], [(0, (.d cRep)), (384, (.d cWrld)), (464, (.drow cI .nil 2864))], [], 4800, false⟩, xid := 4, oc := ⟨[], [2, 5, 7, 13], [], [], [0, 384, 464], [], 2400⟩, o := ⟨[(2, (.pvar 0 [])), (5, (.pvar 384 [])), (7, (.row 464)), (13, (.d cI))], [(0, (.d cRep)), (384, (.d cWrld)), (464, (.drow cI .nil 2864))], [], 4800, false⟩, rc := ⟨[], [4], [], [], [], [], 2400⟩, r := ⟨[(4, (.d .bool))], [], [], 2400, false⟩, F := w22_WorldInts_l1 }
def w22_WorldInts_L2 : LoopSum := { hc := ⟨[], [2, 5, 7, 13], [], [], [0, 384, 464], [], 1040⟩, h := ⟨[(2, (.pvar 0 [])), (5, (.pvar 384 [])), (7, (.row 464)), (13, (.d cI))], [(0, (.d cRep)), (384, (.d cWrld)), (464, (.drow cI .nil 1504))], [], 2080, false⟩, xid := 2, oc := ⟨[], [], [], [], [], [], 1040⟩, o := ⟨[], [], [], 1040, false⟩, rc := ⟨[], [4], [], [], [], [], 1040⟩, r := ⟨[(4, (.d .bool))], [], [], 1040, false⟩, F := w22_WorldInts_l2 }
def w22_WorldInts_c : Ctx := ⟨[(4, w22_awake_sm), (5, r20_May_sm), (6, world_New_sm), (7, world_Pick_sm)], [], [⟨8, 3, 0, 0, w22_WorldInts_L0⟩, ⟨8, 3, 0, 4, w22_WorldInts_L1⟩, ⟨8, 3, 0, 2, w22_WorldInts_L2⟩]⟩
theorem w22_WorldInts_sem : SemOf Tryz.prog 3 w22_WorldInts_sm := semC (c := w22_WorldInts_c) Tryz.func3 (sc w22_awake_sem (sc r20_May_sem (sc world_New_sem (sc world_Pick_sem an)))) an (ec (aeC [true, true, true, true, false, true, false, false] w22_WorldInts_s0 Tryz.func3) (ec (aeC [true, true, true, true, true, false, true, false, false, true, false, false, true, true, true, false, false] w22_WorldInts_s1 Tryz.func3) (ec (aeC [true, true, true, true, true, false, true, false, false] w22_WorldInts_s2 Tryz.func3) an))) 8
end
end Go.Proofs.YtdokfjkihjkcmaaGreatDoor.Den
