/- What functions come to. Printed by a program of this session. -/
import Derived.Test.YtkjpakaidjpjgaaGreatDoorDenF6
namespace Go.Proofs.YtkjpakaidjpjgaaGreatDoor.Den
open Go
set_option maxRecDepth 100000
set_option linter.unusedVariables false
noncomputable section
def w20_CycleKeeps_r (a0 : Wrld) : Option (Bool × Unit) :=
 (w20_awake ()).bind fun y1 =>
 bif !y1.1 then
  (w20_awake ()).bind fun y2 =>
  some (y2.1, ())
 else
 (w20_fits (a0, ())).bind fun y3 =>
 bif !y3.1 then
  (w20_awake ()).bind fun y4 =>
  some (y4.1, ())
 else
 (r20_Copied (a0, ())).bind fun y5 =>
 (cycle_Marker ((y5.1.1, (y5.1.2.1.1, y5.1.2.1.2.1, y5.1.2.1.2.2), y5.1.2.2.1, ((y5.1.2.2.2.1.1.1, y5.1.2.2.2.1.1.2.1, y5.1.2.2.2.1.1.2.2), y5.1.2.2.2.1.2.1, y5.1.2.2.2.1.2.2.1, y5.1.2.2.2.1.2.2.2), y5.1.2.2.2.2.1, y5.1.2.2.2.2.2.1, y5.1.2.2.2.2.2.2.1, y5.1.2.2.2.2.2.2.2.1, y5.1.2.2.2.2.2.2.2.2), ())).bind fun y6 =>
 (cycle_Sweeper ((y5.1.1, (y5.1.2.1.1, y5.1.2.1.2.1, y5.1.2.1.2.2), y5.1.2.2.1, ((y5.1.2.2.2.1.1.1, y5.1.2.2.2.1.1.2.1, y5.1.2.2.2.1.1.2.2), y5.1.2.2.2.1.2.1, y5.1.2.2.2.1.2.2.1, y5.1.2.2.2.1.2.2.2), y5.1.2.2.2.2.1, y5.1.2.2.2.2.2.1, y5.1.2.2.2.2.2.2.1, y5.1.2.2.2.2.2.2.2.1, y5.1.2.2.2.2.2.2.2.2), ())).bind fun y7 =>
 (cycle_Tell ((y5.1.1, (y5.1.2.1.1, y5.1.2.1.2.1, y5.1.2.1.2.2), y5.1.2.2.1, ((y5.1.2.2.2.1.1.1, y5.1.2.2.2.1.1.2.1, y5.1.2.2.2.1.1.2.2), y5.1.2.2.2.1.2.1, y5.1.2.2.2.1.2.2.1, y5.1.2.2.2.1.2.2.2), y5.1.2.2.2.2.1, y5.1.2.2.2.2.2.1, y5.1.2.2.2.2.2.2.1, y5.1.2.2.2.2.2.2.2.1, y5.1.2.2.2.2.2.2.2.2), ())).bind fun y8 =>
 (r20_Same ((y5.1.1, (y5.1.2.1.1, y5.1.2.1.2.1, y5.1.2.1.2.2), y5.1.2.2.1, ((y5.1.2.2.2.1.1.1, y5.1.2.2.2.1.1.2.1, y5.1.2.2.2.1.1.2.2), y5.1.2.2.2.1.2.1, y5.1.2.2.2.1.2.2.1, y5.1.2.2.2.1.2.2.2), y5.1.2.2.2.2.1, y5.1.2.2.2.2.2.1, y5.1.2.2.2.2.2.2.1, y5.1.2.2.2.2.2.2.2.1, y5.1.2.2.2.2.2.2.2.2), a0, ())).bind fun y9 =>
 some (y9.1, ())
def w20_CycleKeeps (x : Wrld × Unit) : Option (Bool × Unit) := w20_CycleKeeps_r x.1
def w20_CycleKeeps_sm : Sum := ⟨(.cons cWrld .nil), (.cons (.d .bool) .nil), w20_CycleKeeps⟩
def w20_CycleKeeps_c : Ctx := ⟨[(12, r20_Copied_sm), (14, r20_Same_sm), (22, w20_awake_sm), (23, w20_fits_sm), (26, cycle_Marker_sm), (29, cycle_Tell_sm), (31, cycle_Sweeper_sm)], [], []⟩
theorem w20_CycleKeeps_sem : SemOf Tryz.prog 8 w20_CycleKeeps_sm := semC (c := w20_CycleKeeps_c) Tryz.func8 (sc r20_Copied_sem (sc r20_Same_sem (sc w20_awake_sem (sc w20_fits_sem (sc cycle_Marker_sem (sc cycle_Tell_sem (sc cycle_Sweeper_sem an))))))) an an 8
def w20_CyclePhases_r (a0 : Wrld) : Option (Bool × Unit) :=
 (w20_awake ()).bind fun y1 =>
 bif !y1.1 then
  (w20_awake ()).bind fun y2 =>
  some (y2.1, ())
 else
 (w20_fits (a0, ())).bind fun y3 =>
 bif !y3.1 then
  (w20_awake ()).bind fun y4 =>
  some (y4.1, ())
 else
 bif decide (a0.2.2.2.2.2.2.1 > 1099511627776) then
  (w20_awake ()).bind fun y5 =>
  some (y5.1, ())
 else
 bif decide (a0.2.2.2.2.2.2.1 < (-1099511627776)) then
  (w20_awake ()).bind fun y6 =>
  some (y6.1, ())
 else
 (cycle_Marker (a0, ())).bind fun y7 =>
 (cycle_Sweeper (a0, ())).bind fun y8 =>
 bif a0.2.2.2.2.1 != 2 then
  bif y8.2.1 != 0 then
   some (false, ())
  else
  (r20_Same (y8.1, a0, ())).bind fun y9 =>
  bif !y9.1 then
   some (false, ())
  else
  bif a0.2.2.2.2.1 == 2 then
   bif y7.2.1 != y8.2.1 then
    some (false, ())
   else
   (r20_Same (y7.1, y8.1, ())).bind fun y10 =>
   bif !y10.1 then
    some (false, ())
   else
   bif y7.2.1 != 5 then
    bif y7.2.1 != 1 then
     some (false, ())
    else
    bif a0.2.2.2.2.1 == 0 then
     bif !a0.2.2.2.2.2.1 then
      bif y7.2.1 != 0 then
       some (false, ())
      else
      (r20_Same (y7.1, a0, ())).bind fun y11 =>
      bif !y11.1 then
       some (false, ())
      else
      bif a0.2.2.2.2.1 == 0 then
       bif !((y7.2.1 == 3) == a0.2.2.2.2.2.1) then
        some (false, ())
       else
       bif !((y7.1.2.2.2.2.2.2.1 == (wi64 (a0.2.2.2.2.2.2.1 + 1))) == a0.2.2.2.2.2.1) then
        some (false, ())
       else
       bif y7.1.2.2.2.2.2.2.1 != a0.2.2.2.2.2.2.1 then
        bif !a0.2.2.2.2.2.1 then
         some (false, ())
        else
        bif (y7.1.2.2.2.2.2.2.2.1.length : Int) == (a0.2.2.2.2.2.2.2.1.length : Int) then
         bif y7.2.1 != 4 then
          some (true, ())
         else
         bif (y7.1.2.2.2.2.2.2.2.1.length : Int) == (wi64 ((a0.2.2.2.2.2.2.2.1.length : Int) + 1)) then
          bif y7.2.1 == 4 then
           some (y7.1.2.2.2.2.1 == 2, ())
          else
          some (false, ())
         else
         some (false, ())
        else
        bif (y7.1.2.2.2.2.2.2.2.1.length : Int) == (wi64 ((a0.2.2.2.2.2.2.2.1.length : Int) + 1)) then
         bif y7.2.1 == 4 then
          some (y7.1.2.2.2.2.1 == 2, ())
         else
         some (false, ())
        else
        some (false, ())
       else
       bif (y7.1.2.2.2.2.2.2.2.1.length : Int) == (a0.2.2.2.2.2.2.2.1.length : Int) then
        bif y7.2.1 != 4 then
         some (true, ())
        else
        bif (y7.1.2.2.2.2.2.2.2.1.length : Int) == (wi64 ((a0.2.2.2.2.2.2.2.1.length : Int) + 1)) then
         bif y7.2.1 == 4 then
          some (y7.1.2.2.2.2.1 == 2, ())
         else
         some (false, ())
        else
        some (false, ())
       else
       bif (y7.1.2.2.2.2.2.2.2.1.length : Int) == (wi64 ((a0.2.2.2.2.2.2.2.1.length : Int) + 1)) then
        bif y7.2.1 == 4 then
         some (y7.1.2.2.2.2.1 == 2, ())
        else
        some (false, ())
       else
       some (false, ())
      else
      bif !((y7.2.1 == 3) == false) then
       some (false, ())
      else
      bif !((y7.1.2.2.2.2.2.2.1 == (wi64 (a0.2.2.2.2.2.2.1 + 1))) == false) then
       some (false, ())
      else
      bif y7.1.2.2.2.2.2.2.1 != a0.2.2.2.2.2.2.1 then
       some (false, ())
      else
      bif (y7.1.2.2.2.2.2.2.2.1.length : Int) == (a0.2.2.2.2.2.2.2.1.length : Int) then
       bif y7.2.1 != 4 then
        some (true, ())
       else
       bif (y7.1.2.2.2.2.2.2.2.1.length : Int) == (wi64 ((a0.2.2.2.2.2.2.2.1.length : Int) + 1)) then
        bif y7.2.1 == 4 then
         some (y7.1.2.2.2.2.1 == 2, ())
        else
        some (false, ())
       else
       some (false, ())
      else
      bif (y7.1.2.2.2.2.2.2.2.1.length : Int) == (wi64 ((a0.2.2.2.2.2.2.2.1.length : Int) + 1)) then
       bif y7.2.1 == 4 then
        some (y7.1.2.2.2.2.1 == 2, ())
       else
       some (false, ())
      else
      some (false, ())
     else
     bif a0.2.2.2.2.1 == 0 then
      bif !((y7.2.1 == 3) == a0.2.2.2.2.2.1) then
       some (false, ())
      else
      bif !((y7.1.2.2.2.2.2.2.1 == (wi64 (a0.2.2.2.2.2.2.1 + 1))) == a0.2.2.2.2.2.1) then
       some (false, ())
      else
      bif y7.1.2.2.2.2.2.2.1 != a0.2.2.2.2.2.2.1 then
       bif !a0.2.2.2.2.2.1 then
        some (false, ())
       else
       bif (y7.1.2.2.2.2.2.2.2.1.length : Int) == (a0.2.2.2.2.2.2.2.1.length : Int) then
        bif y7.2.1 != 4 then
         some (true, ())
        else
        bif (y7.1.2.2.2.2.2.2.2.1.length : Int) == (wi64 ((a0.2.2.2.2.2.2.2.1.length : Int) + 1)) then
         bif y7.2.1 == 4 then
          some (y7.1.2.2.2.2.1 == 2, ())
         else
         some (false, ())
        else
        some (false, ())
       else
       bif (y7.1.2.2.2.2.2.2.2.1.length : Int) == (wi64 ((a0.2.2.2.2.2.2.2.1.length : Int) + 1)) then
        bif y7.2.1 == 4 then
         some (y7.1.2.2.2.2.1 == 2, ())
        else
        some (false, ())
       else
       some (false, ())
      else
      bif (y7.1.2.2.2.2.2.2.2.1.length : Int) == (a0.2.2.2.2.2.2.2.1.length : Int) then
       bif y7.2.1 != 4 then
        some (true, ())
       else
       bif (y7.1.2.2.2.2.2.2.2.1.length : Int) == (wi64 ((a0.2.2.2.2.2.2.2.1.length : Int) + 1)) then
        bif y7.2.1 == 4 then
         some (y7.1.2.2.2.2.1 == 2, ())
        else
        some (false, ())
       else
       some (false, ())
      else
      bif (y7.1.2.2.2.2.2.2.2.1.length : Int) == (wi64 ((a0.2.2.2.2.2.2.2.1.length : Int) + 1)) then
       bif y7.2.1 == 4 then
        some (y7.1.2.2.2.2.1 == 2, ())
       else
       some (false, ())
      else
      some (false, ())
     else
     bif !((y7.2.1 == 3) == false) then
      some (false, ())
     else
     bif !((y7.1.2.2.2.2.2.2.1 == (wi64 (a0.2.2.2.2.2.2.1 + 1))) == false) then
      some (false, ())
     else
     bif y7.1.2.2.2.2.2.2.1 != a0.2.2.2.2.2.2.1 then
      some (false, ())
     else
     bif (y7.1.2.2.2.2.2.2.2.1.length : Int) == (a0.2.2.2.2.2.2.2.1.length : Int) then
      bif y7.2.1 != 4 then
       some (true, ())
      else
      bif (y7.1.2.2.2.2.2.2.2.1.length : Int) == (wi64 ((a0.2.2.2.2.2.2.2.1.length : Int) + 1)) then
       bif y7.2.1 == 4 then
        some (y7.1.2.2.2.2.1 == 2, ())
       else
       some (false, ())
      else
      some (false, ())
     else
     bif (y7.1.2.2.2.2.2.2.2.1.length : Int) == (wi64 ((a0.2.2.2.2.2.2.2.1.length : Int) + 1)) then
      bif y7.2.1 == 4 then
       some (y7.1.2.2.2.2.1 == 2, ())
      else
      some (false, ())
     else
     some (false, ())
    else
    bif a0.2.2.2.2.1 == 0 then
     bif !((y7.2.1 == 3) == a0.2.2.2.2.2.1) then
      some (false, ())
     else
     bif !((y7.1.2.2.2.2.2.2.1 == (wi64 (a0.2.2.2.2.2.2.1 + 1))) == a0.2.2.2.2.2.1) then
      some (false, ())
     else
     bif y7.1.2.2.2.2.2.2.1 != a0.2.2.2.2.2.2.1 then
      bif !a0.2.2.2.2.2.1 then
       some (false, ())
      else
      bif (y7.1.2.2.2.2.2.2.2.1.length : Int) == (a0.2.2.2.2.2.2.2.1.length : Int) then
       bif y7.2.1 != 4 then
        some (true, ())
       else
       bif (y7.1.2.2.2.2.2.2.2.1.length : Int) == (wi64 ((a0.2.2.2.2.2.2.2.1.length : Int) + 1)) then
        bif y7.2.1 == 4 then
         some (y7.1.2.2.2.2.1 == 2, ())
        else
        some (false, ())
       else
       some (false, ())
      else
      bif (y7.1.2.2.2.2.2.2.2.1.length : Int) == (wi64 ((a0.2.2.2.2.2.2.2.1.length : Int) + 1)) then
       bif y7.2.1 == 4 then
        some (y7.1.2.2.2.2.1 == 2, ())
       else
       some (false, ())
      else
      some (false, ())
     else
     bif (y7.1.2.2.2.2.2.2.2.1.length : Int) == (a0.2.2.2.2.2.2.2.1.length : Int) then
      bif y7.2.1 != 4 then
       some (true, ())
      else
      bif (y7.1.2.2.2.2.2.2.2.1.length : Int) == (wi64 ((a0.2.2.2.2.2.2.2.1.length : Int) + 1)) then
       bif y7.2.1 == 4 then
        some (y7.1.2.2.2.2.1 == 2, ())
       else
       some (false, ())
      else
      some (false, ())
     else
     bif (y7.1.2.2.2.2.2.2.2.1.length : Int) == (wi64 ((a0.2.2.2.2.2.2.2.1.length : Int) + 1)) then
      bif y7.2.1 == 4 then
       some (y7.1.2.2.2.2.1 == 2, ())
      else
      some (false, ())
     else
     some (false, ())
    else
    bif !((y7.2.1 == 3) == false) then
     some (false, ())
    else
    bif !((y7.1.2.2.2.2.2.2.1 == (wi64 (a0.2.2.2.2.2.2.1 + 1))) == false) then
     some (false, ())
    else
    bif y7.1.2.2.2.2.2.2.1 != a0.2.2.2.2.2.2.1 then
     some (false, ())
    else
    bif (y7.1.2.2.2.2.2.2.2.1.length : Int) == (a0.2.2.2.2.2.2.2.1.length : Int) then
     bif y7.2.1 != 4 then
      some (true, ())
     else
     bif (y7.1.2.2.2.2.2.2.2.1.length : Int) == (wi64 ((a0.2.2.2.2.2.2.2.1.length : Int) + 1)) then
      bif y7.2.1 == 4 then
       some (y7.1.2.2.2.2.1 == 2, ())
      else
      some (false, ())
     else
     some (false, ())
    else
    bif (y7.1.2.2.2.2.2.2.2.1.length : Int) == (wi64 ((a0.2.2.2.2.2.2.2.1.length : Int) + 1)) then
     bif y7.2.1 == 4 then
      some (y7.1.2.2.2.2.1 == 2, ())
     else
     some (false, ())
    else
    some (false, ())
   else
   bif a0.2.2.2.2.1 == 0 then
    bif !a0.2.2.2.2.2.1 then
     bif y7.2.1 != 0 then
      some (false, ())
     else
     (r20_Same (y7.1, a0, ())).bind fun y12 =>
     bif !y12.1 then
      some (false, ())
     else
     bif a0.2.2.2.2.1 == 0 then
      bif !((y7.2.1 == 3) == a0.2.2.2.2.2.1) then
       some (false, ())
      else
      bif !((y7.1.2.2.2.2.2.2.1 == (wi64 (a0.2.2.2.2.2.2.1 + 1))) == a0.2.2.2.2.2.1) then
       some (false, ())
      else
      bif y7.1.2.2.2.2.2.2.1 != a0.2.2.2.2.2.2.1 then
       bif !a0.2.2.2.2.2.1 then
        some (false, ())
       else
       bif (y7.1.2.2.2.2.2.2.2.1.length : Int) == (a0.2.2.2.2.2.2.2.1.length : Int) then
        bif y7.2.1 != 4 then
         some (true, ())
        else
        bif (y7.1.2.2.2.2.2.2.2.1.length : Int) == (wi64 ((a0.2.2.2.2.2.2.2.1.length : Int) + 1)) then
         bif y7.2.1 == 4 then
          some (y7.1.2.2.2.2.1 == 2, ())
         else
         some (false, ())
        else
        some (false, ())
       else
       bif (y7.1.2.2.2.2.2.2.2.1.length : Int) == (wi64 ((a0.2.2.2.2.2.2.2.1.length : Int) + 1)) then
        bif y7.2.1 == 4 then
         some (y7.1.2.2.2.2.1 == 2, ())
        else
        some (false, ())
       else
       some (false, ())
      else
      bif (y7.1.2.2.2.2.2.2.2.1.length : Int) == (a0.2.2.2.2.2.2.2.1.length : Int) then
       bif y7.2.1 != 4 then
        some (true, ())
       else
       bif (y7.1.2.2.2.2.2.2.2.1.length : Int) == (wi64 ((a0.2.2.2.2.2.2.2.1.length : Int) + 1)) then
        bif y7.2.1 == 4 then
         some (y7.1.2.2.2.2.1 == 2, ())
        else
        some (false, ())
       else
       some (false, ())
      else
      bif (y7.1.2.2.2.2.2.2.2.1.length : Int) == (wi64 ((a0.2.2.2.2.2.2.2.1.length : Int) + 1)) then
       bif y7.2.1 == 4 then
        some (y7.1.2.2.2.2.1 == 2, ())
       else
       some (false, ())
      else
      some (false, ())
     else
     bif !((y7.2.1 == 3) == false) then
      some (false, ())
     else
     bif !((y7.1.2.2.2.2.2.2.1 == (wi64 (a0.2.2.2.2.2.2.1 + 1))) == false) then
      some (false, ())
     else
     bif y7.1.2.2.2.2.2.2.1 != a0.2.2.2.2.2.2.1 then
      some (false, ())
     else
     bif (y7.1.2.2.2.2.2.2.2.1.length : Int) == (a0.2.2.2.2.2.2.2.1.length : Int) then
      bif y7.2.1 != 4 then
       some (true, ())
      else
      bif (y7.1.2.2.2.2.2.2.2.1.length : Int) == (wi64 ((a0.2.2.2.2.2.2.2.1.length : Int) + 1)) then
       bif y7.2.1 == 4 then
        some (y7.1.2.2.2.2.1 == 2, ())
       else
       some (false, ())
      else
      some (false, ())
     else
     bif (y7.1.2.2.2.2.2.2.2.1.length : Int) == (wi64 ((a0.2.2.2.2.2.2.2.1.length : Int) + 1)) then
      bif y7.2.1 == 4 then
       some (y7.1.2.2.2.2.1 == 2, ())
      else
      some (false, ())
     else
     some (false, ())
    else
    bif a0.2.2.2.2.1 == 0 then
     bif !((y7.2.1 == 3) == a0.2.2.2.2.2.1) then
      some (false, ())
     else
     bif !((y7.1.2.2.2.2.2.2.1 == (wi64 (a0.2.2.2.2.2.2.1 + 1))) == a0.2.2.2.2.2.1) then
      some (false, ())
     else
     bif y7.1.2.2.2.2.2.2.1 != a0.2.2.2.2.2.2.1 then
      bif !a0.2.2.2.2.2.1 then
       some (false, ())
      else
      bif (y7.1.2.2.2.2.2.2.2.1.length : Int) == (a0.2.2.2.2.2.2.2.1.length : Int) then
       bif y7.2.1 != 4 then
        some (true, ())
       else
       bif (y7.1.2.2.2.2.2.2.2.1.length : Int) == (wi64 ((a0.2.2.2.2.2.2.2.1.length : Int) + 1)) then
        bif y7.2.1 == 4 then
         some (y7.1.2.2.2.2.1 == 2, ())
        else
        some (false, ())
       else
       some (false, ())
      else
      bif (y7.1.2.2.2.2.2.2.2.1.length : Int) == (wi64 ((a0.2.2.2.2.2.2.2.1.length : Int) + 1)) then
       bif y7.2.1 == 4 then
        some (y7.1.2.2.2.2.1 == 2, ())
       else
       some (false, ())
      else
      some (false, ())
     else
     bif (y7.1.2.2.2.2.2.2.2.1.length : Int) == (a0.2.2.2.2.2.2.2.1.length : Int) then
      bif y7.2.1 != 4 then
       some (true, ())
      else
      bif (y7.1.2.2.2.2.2.2.2.1.length : Int) == (wi64 ((a0.2.2.2.2.2.2.2.1.length : Int) + 1)) then
       bif y7.2.1 == 4 then
        some (y7.1.2.2.2.2.1 == 2, ())
       else
       some (false, ())
      else
      some (false, ())
     else
     bif (y7.1.2.2.2.2.2.2.2.1.length : Int) == (wi64 ((a0.2.2.2.2.2.2.2.1.length : Int) + 1)) then
      bif y7.2.1 == 4 then
       some (y7.1.2.2.2.2.1 == 2, ())
      else
      some (false, ())
     else
     some (false, ())
    else
    bif !((y7.2.1 == 3) == false) then
     some (false, ())
    else
    bif !((y7.1.2.2.2.2.2.2.1 == (wi64 (a0.2.2.2.2.2.2.1 + 1))) == false) then
     some (false, ())
    else
    bif y7.1.2.2.2.2.2.2.1 != a0.2.2.2.2.2.2.1 then
     some (false, ())
    else
    bif (y7.1.2.2.2.2.2.2.2.1.length : Int) == (a0.2.2.2.2.2.2.2.1.length : Int) then
     bif y7.2.1 != 4 then
      some (true, ())
     else
     bif (y7.1.2.2.2.2.2.2.2.1.length : Int) == (wi64 ((a0.2.2.2.2.2.2.2.1.length : Int) + 1)) then
      bif y7.2.1 == 4 then
       some (y7.1.2.2.2.2.1 == 2, ())
      else
      some (false, ())
     else
     some (false, ())
    else
    bif (y7.1.2.2.2.2.2.2.2.1.length : Int) == (wi64 ((a0.2.2.2.2.2.2.2.1.length : Int) + 1)) then
     bif y7.2.1 == 4 then
      some (y7.1.2.2.2.2.1 == 2, ())
     else
     some (false, ())
    else
    some (false, ())
   else
   bif a0.2.2.2.2.1 == 0 then
    bif !((y7.2.1 == 3) == a0.2.2.2.2.2.1) then
     some (false, ())
    else
    bif !((y7.1.2.2.2.2.2.2.1 == (wi64 (a0.2.2.2.2.2.2.1 + 1))) == a0.2.2.2.2.2.1) then
     some (false, ())
    else
    bif y7.1.2.2.2.2.2.2.1 != a0.2.2.2.2.2.2.1 then
     bif !a0.2.2.2.2.2.1 then
      some (false, ())
     else
     bif (y7.1.2.2.2.2.2.2.2.1.length : Int) == (a0.2.2.2.2.2.2.2.1.length : Int) then
      bif y7.2.1 != 4 then
       some (true, ())
      else
      bif (y7.1.2.2.2.2.2.2.2.1.length : Int) == (wi64 ((a0.2.2.2.2.2.2.2.1.length : Int) + 1)) then
       bif y7.2.1 == 4 then
        some (y7.1.2.2.2.2.1 == 2, ())
       else
       some (false, ())
      else
      some (false, ())
     else
     bif (y7.1.2.2.2.2.2.2.2.1.length : Int) == (wi64 ((a0.2.2.2.2.2.2.2.1.length : Int) + 1)) then
      bif y7.2.1 == 4 then
       some (y7.1.2.2.2.2.1 == 2, ())
      else
      some (false, ())
     else
     some (false, ())
    else
    bif (y7.1.2.2.2.2.2.2.2.1.length : Int) == (a0.2.2.2.2.2.2.2.1.length : Int) then
     bif y7.2.1 != 4 then
      some (true, ())
     else
     bif (y7.1.2.2.2.2.2.2.2.1.length : Int) == (wi64 ((a0.2.2.2.2.2.2.2.1.length : Int) + 1)) then
      bif y7.2.1 == 4 then
       some (y7.1.2.2.2.2.1 == 2, ())
      else
      some (false, ())
     else
     some (false, ())
    else
    bif (y7.1.2.2.2.2.2.2.2.1.length : Int) == (wi64 ((a0.2.2.2.2.2.2.2.1.length : Int) + 1)) then
     bif y7.2.1 == 4 then
      some (y7.1.2.2.2.2.1 == 2, ())
     else
     some (false, ())
    else
    some (false, ())
   else
   bif !((y7.2.1 == 3) == false) then
    some (false, ())
   else
   bif !((y7.1.2.2.2.2.2.2.1 == (wi64 (a0.2.2.2.2.2.2.1 + 1))) == false) then
    some (false, ())
   else
   bif y7.1.2.2.2.2.2.2.1 != a0.2.2.2.2.2.2.1 then
    some (false, ())
   else
   bif (y7.1.2.2.2.2.2.2.2.1.length : Int) == (a0.2.2.2.2.2.2.2.1.length : Int) then
    bif y7.2.1 != 4 then
     some (true, ())
    else
    bif (y7.1.2.2.2.2.2.2.2.1.length : Int) == (wi64 ((a0.2.2.2.2.2.2.2.1.length : Int) + 1)) then
     bif y7.2.1 == 4 then
      some (y7.1.2.2.2.2.1 == 2, ())
     else
     some (false, ())
    else
    some (false, ())
   else
   bif (y7.1.2.2.2.2.2.2.2.1.length : Int) == (wi64 ((a0.2.2.2.2.2.2.2.1.length : Int) + 1)) then
    bif y7.2.1 == 4 then
     some (y7.1.2.2.2.2.1 == 2, ())
    else
    some (false, ())
   else
   some (false, ())
  else
  bif a0.2.2.2.2.1 == 0 then
   bif !a0.2.2.2.2.2.1 then
    bif y7.2.1 != 0 then
     some (false, ())
    else
    (r20_Same (y7.1, a0, ())).bind fun y13 =>
    bif !y13.1 then
     some (false, ())
    else
    bif a0.2.2.2.2.1 == 0 then
     bif !((y7.2.1 == 3) == a0.2.2.2.2.2.1) then
      some (false, ())
     else
     bif !((y7.1.2.2.2.2.2.2.1 == (wi64 (a0.2.2.2.2.2.2.1 + 1))) == a0.2.2.2.2.2.1) then
      some (false, ())
     else
     bif y7.1.2.2.2.2.2.2.1 != a0.2.2.2.2.2.2.1 then
      bif !a0.2.2.2.2.2.1 then
       some (false, ())
      else
      bif (y7.1.2.2.2.2.2.2.2.1.length : Int) == (a0.2.2.2.2.2.2.2.1.length : Int) then
       bif y7.2.1 != 4 then
        some (true, ())
       else
       bif (y7.1.2.2.2.2.2.2.2.1.length : Int) == (wi64 ((a0.2.2.2.2.2.2.2.1.length : Int) + 1)) then
        bif y7.2.1 == 4 then
         some (y7.1.2.2.2.2.1 == 2, ())
        else
        some (false, ())
       else
       some (false, ())
      else
      bif (y7.1.2.2.2.2.2.2.2.1.length : Int) == (wi64 ((a0.2.2.2.2.2.2.2.1.length : Int) + 1)) then
       bif y7.2.1 == 4 then
        some (y7.1.2.2.2.2.1 == 2, ())
       else
       some (false, ())
      else
      some (false, ())
     else
     bif (y7.1.2.2.2.2.2.2.2.1.length : Int) == (a0.2.2.2.2.2.2.2.1.length : Int) then
      bif y7.2.1 != 4 then
       some (true, ())
      else
      bif (y7.1.2.2.2.2.2.2.2.1.length : Int) == (wi64 ((a0.2.2.2.2.2.2.2.1.length : Int) + 1)) then
       bif y7.2.1 == 4 then
        some (y7.1.2.2.2.2.1 == 2, ())
       else
       some (false, ())
      else
      some (false, ())
     else
     bif (y7.1.2.2.2.2.2.2.2.1.length : Int) == (wi64 ((a0.2.2.2.2.2.2.2.1.length : Int) + 1)) then
      bif y7.2.1 == 4 then
       some (y7.1.2.2.2.2.1 == 2, ())
      else
      some (false, ())
     else
     some (false, ())
    else
    bif !((y7.2.1 == 3) == false) then
     some (false, ())
    else
    bif !((y7.1.2.2.2.2.2.2.1 == (wi64 (a0.2.2.2.2.2.2.1 + 1))) == false) then
     some (false, ())
    else
    bif y7.1.2.2.2.2.2.2.1 != a0.2.2.2.2.2.2.1 then
     some (false, ())
    else
    bif (y7.1.2.2.2.2.2.2.2.1.length : Int) == (a0.2.2.2.2.2.2.2.1.length : Int) then
     bif y7.2.1 != 4 then
      some (true, ())
     else
     bif (y7.1.2.2.2.2.2.2.2.1.length : Int) == (wi64 ((a0.2.2.2.2.2.2.2.1.length : Int) + 1)) then
      bif y7.2.1 == 4 then
       some (y7.1.2.2.2.2.1 == 2, ())
      else
      some (false, ())
     else
     some (false, ())
    else
    bif (y7.1.2.2.2.2.2.2.2.1.length : Int) == (wi64 ((a0.2.2.2.2.2.2.2.1.length : Int) + 1)) then
     bif y7.2.1 == 4 then
      some (y7.1.2.2.2.2.1 == 2, ())
     else
     some (false, ())
    else
    some (false, ())
   else
   bif a0.2.2.2.2.1 == 0 then
    bif !((y7.2.1 == 3) == a0.2.2.2.2.2.1) then
     some (false, ())
    else
    bif !((y7.1.2.2.2.2.2.2.1 == (wi64 (a0.2.2.2.2.2.2.1 + 1))) == a0.2.2.2.2.2.1) then
     some (false, ())
    else
    bif y7.1.2.2.2.2.2.2.1 != a0.2.2.2.2.2.2.1 then
     bif !a0.2.2.2.2.2.1 then
      some (false, ())
     else
     bif (y7.1.2.2.2.2.2.2.2.1.length : Int) == (a0.2.2.2.2.2.2.2.1.length : Int) then
      bif y7.2.1 != 4 then
       some (true, ())
      else
      bif (y7.1.2.2.2.2.2.2.2.1.length : Int) == (wi64 ((a0.2.2.2.2.2.2.2.1.length : Int) + 1)) then
       bif y7.2.1 == 4 then
        some (y7.1.2.2.2.2.1 == 2, ())
       else
       some (false, ())
      else
      some (false, ())
     else
     bif (y7.1.2.2.2.2.2.2.2.1.length : Int) == (wi64 ((a0.2.2.2.2.2.2.2.1.length : Int) + 1)) then
      bif y7.2.1 == 4 then
       some (y7.1.2.2.2.2.1 == 2, ())
      else
      some (false, ())
     else
     some (false, ())
    else
    bif (y7.1.2.2.2.2.2.2.2.1.length : Int) == (a0.2.2.2.2.2.2.2.1.length : Int) then
     bif y7.2.1 != 4 then
      some (true, ())
     else
     bif (y7.1.2.2.2.2.2.2.2.1.length : Int) == (wi64 ((a0.2.2.2.2.2.2.2.1.length : Int) + 1)) then
      bif y7.2.1 == 4 then
       some (y7.1.2.2.2.2.1 == 2, ())
      else
      some (false, ())
     else
     some (false, ())
    else
    bif (y7.1.2.2.2.2.2.2.2.1.length : Int) == (wi64 ((a0.2.2.2.2.2.2.2.1.length : Int) + 1)) then
     bif y7.2.1 == 4 then
      some (y7.1.2.2.2.2.1 == 2, ())
     else
     some (false, ())
    else
    some (false, ())
   else
   bif !((y7.2.1 == 3) == false) then
    some (false, ())
   else
   bif !((y7.1.2.2.2.2.2.2.1 == (wi64 (a0.2.2.2.2.2.2.1 + 1))) == false) then
    some (false, ())
   else
   bif y7.1.2.2.2.2.2.2.1 != a0.2.2.2.2.2.2.1 then
    some (false, ())
   else
   bif (y7.1.2.2.2.2.2.2.2.1.length : Int) == (a0.2.2.2.2.2.2.2.1.length : Int) then
    bif y7.2.1 != 4 then
     some (true, ())
    else
    bif (y7.1.2.2.2.2.2.2.2.1.length : Int) == (wi64 ((a0.2.2.2.2.2.2.2.1.length : Int) + 1)) then
     bif y7.2.1 == 4 then
      some (y7.1.2.2.2.2.1 == 2, ())
     else
     some (false, ())
    else
    some (false, ())
   else
   bif (y7.1.2.2.2.2.2.2.2.1.length : Int) == (wi64 ((a0.2.2.2.2.2.2.2.1.length : Int) + 1)) then
    bif y7.2.1 == 4 then
     some (y7.1.2.2.2.2.1 == 2, ())
    else
    some (false, ())
   else
   some (false, ())
  else
  bif a0.2.2.2.2.1 == 0 then
   bif !((y7.2.1 == 3) == a0.2.2.2.2.2.1) then
    some (false, ())
   else
   bif !((y7.1.2.2.2.2.2.2.1 == (wi64 (a0.2.2.2.2.2.2.1 + 1))) == a0.2.2.2.2.2.1) then
    some (false, ())
   else
   bif y7.1.2.2.2.2.2.2.1 != a0.2.2.2.2.2.2.1 then
    bif !a0.2.2.2.2.2.1 then
     some (false, ())
    else
    bif (y7.1.2.2.2.2.2.2.2.1.length : Int) == (a0.2.2.2.2.2.2.2.1.length : Int) then
     bif y7.2.1 != 4 then
      some (true, ())
     else
     bif (y7.1.2.2.2.2.2.2.2.1.length : Int) == (wi64 ((a0.2.2.2.2.2.2.2.1.length : Int) + 1)) then
      bif y7.2.1 == 4 then
       some (y7.1.2.2.2.2.1 == 2, ())
      else
      some (false, ())
     else
     some (false, ())
    else
    bif (y7.1.2.2.2.2.2.2.2.1.length : Int) == (wi64 ((a0.2.2.2.2.2.2.2.1.length : Int) + 1)) then
     bif y7.2.1 == 4 then
      some (y7.1.2.2.2.2.1 == 2, ())
     else
     some (false, ())
    else
    some (false, ())
   else
   bif (y7.1.2.2.2.2.2.2.2.1.length : Int) == (a0.2.2.2.2.2.2.2.1.length : Int) then
    bif y7.2.1 != 4 then
     some (true, ())
    else
    bif (y7.1.2.2.2.2.2.2.2.1.length : Int) == (wi64 ((a0.2.2.2.2.2.2.2.1.length : Int) + 1)) then
     bif y7.2.1 == 4 then
      some (y7.1.2.2.2.2.1 == 2, ())
     else
     some (false, ())
    else
    some (false, ())
   else
   bif (y7.1.2.2.2.2.2.2.2.1.length : Int) == (wi64 ((a0.2.2.2.2.2.2.2.1.length : Int) + 1)) then
    bif y7.2.1 == 4 then
     some (y7.1.2.2.2.2.1 == 2, ())
    else
    some (false, ())
   else
   some (false, ())
  else
  bif !((y7.2.1 == 3) == false) then
   some (false, ())
  else
  bif !((y7.1.2.2.2.2.2.2.1 == (wi64 (a0.2.2.2.2.2.2.1 + 1))) == false) then
   some (false, ())
  else
  bif y7.1.2.2.2.2.2.2.1 != a0.2.2.2.2.2.2.1 then
   some (false, ())
  else
  bif (y7.1.2.2.2.2.2.2.2.1.length : Int) == (a0.2.2.2.2.2.2.2.1.length : Int) then
   bif y7.2.1 != 4 then
    some (true, ())
   else
   bif (y7.1.2.2.2.2.2.2.2.1.length : Int) == (wi64 ((a0.2.2.2.2.2.2.2.1.length : Int) + 1)) then
    bif y7.2.1 == 4 then
     some (y7.1.2.2.2.2.1 == 2, ())
    else
    some (false, ())
   else
   some (false, ())
  else
  bif (y7.1.2.2.2.2.2.2.2.1.length : Int) == (wi64 ((a0.2.2.2.2.2.2.2.1.length : Int) + 1)) then
   bif y7.2.1 == 4 then
    some (y7.1.2.2.2.2.1 == 2, ())
   else
   some (false, ())
  else
  some (false, ())
 else
 bif a0.2.2.2.2.1 == 2 then
  bif y7.2.1 != y8.2.1 then
   some (false, ())
  else
  (r20_Same (y7.1, y8.1, ())).bind fun y14 =>
  bif !y14.1 then
   some (false, ())
  else
  bif y7.2.1 != 5 then
   bif y7.2.1 != 1 then
    some (false, ())
   else
   bif a0.2.2.2.2.1 == 0 then
    bif !a0.2.2.2.2.2.1 then
     bif y7.2.1 != 0 then
      some (false, ())
     else
     (r20_Same (y7.1, a0, ())).bind fun y15 =>
     bif !y15.1 then
      some (false, ())
     else
     bif a0.2.2.2.2.1 == 0 then
      bif !((y7.2.1 == 3) == a0.2.2.2.2.2.1) then
       some (false, ())
      else
      bif !((y7.1.2.2.2.2.2.2.1 == (wi64 (a0.2.2.2.2.2.2.1 + 1))) == a0.2.2.2.2.2.1) then
       some (false, ())
      else
      bif y7.1.2.2.2.2.2.2.1 != a0.2.2.2.2.2.2.1 then
       bif !a0.2.2.2.2.2.1 then
        some (false, ())
       else
       bif (y7.1.2.2.2.2.2.2.2.1.length : Int) == (a0.2.2.2.2.2.2.2.1.length : Int) then
        bif y7.2.1 != 4 then
         some (true, ())
        else
        bif (y7.1.2.2.2.2.2.2.2.1.length : Int) == (wi64 ((a0.2.2.2.2.2.2.2.1.length : Int) + 1)) then
         bif y7.2.1 == 4 then
          some (y7.1.2.2.2.2.1 == 2, ())
         else
         some (false, ())
        else
        some (false, ())
       else
       bif (y7.1.2.2.2.2.2.2.2.1.length : Int) == (wi64 ((a0.2.2.2.2.2.2.2.1.length : Int) + 1)) then
        bif y7.2.1 == 4 then
         some (y7.1.2.2.2.2.1 == 2, ())
        else
        some (false, ())
       else
       some (false, ())
      else
      bif (y7.1.2.2.2.2.2.2.2.1.length : Int) == (a0.2.2.2.2.2.2.2.1.length : Int) then
       bif y7.2.1 != 4 then
        some (true, ())
       else
       bif (y7.1.2.2.2.2.2.2.2.1.length : Int) == (wi64 ((a0.2.2.2.2.2.2.2.1.length : Int) + 1)) then
        bif y7.2.1 == 4 then
         some (y7.1.2.2.2.2.1 == 2, ())
        else
        some (false, ())
       else
       some (false, ())
      else
      bif (y7.1.2.2.2.2.2.2.2.1.length : Int) == (wi64 ((a0.2.2.2.2.2.2.2.1.length : Int) + 1)) then
       bif y7.2.1 == 4 then
        some (y7.1.2.2.2.2.1 == 2, ())
       else
       some (false, ())
      else
      some (false, ())
     else
     bif !((y7.2.1 == 3) == false) then
      some (false, ())
     else
     bif !((y7.1.2.2.2.2.2.2.1 == (wi64 (a0.2.2.2.2.2.2.1 + 1))) == false) then
      some (false, ())
     else
     bif y7.1.2.2.2.2.2.2.1 != a0.2.2.2.2.2.2.1 then
      some (false, ())
     else
     bif (y7.1.2.2.2.2.2.2.2.1.length : Int) == (a0.2.2.2.2.2.2.2.1.length : Int) then
      bif y7.2.1 != 4 then
       some (true, ())
      else
      bif (y7.1.2.2.2.2.2.2.2.1.length : Int) == (wi64 ((a0.2.2.2.2.2.2.2.1.length : Int) + 1)) then
       bif y7.2.1 == 4 then
        some (y7.1.2.2.2.2.1 == 2, ())
       else
       some (false, ())
      else
      some (false, ())
     else
     bif (y7.1.2.2.2.2.2.2.2.1.length : Int) == (wi64 ((a0.2.2.2.2.2.2.2.1.length : Int) + 1)) then
      bif y7.2.1 == 4 then
       some (y7.1.2.2.2.2.1 == 2, ())
      else
      some (false, ())
     else
     some (false, ())
    else
    bif a0.2.2.2.2.1 == 0 then
     bif !((y7.2.1 == 3) == a0.2.2.2.2.2.1) then
      some (false, ())
     else
     bif !((y7.1.2.2.2.2.2.2.1 == (wi64 (a0.2.2.2.2.2.2.1 + 1))) == a0.2.2.2.2.2.1) then
      some (false, ())
     else
     bif y7.1.2.2.2.2.2.2.1 != a0.2.2.2.2.2.2.1 then
      bif !a0.2.2.2.2.2.1 then
       some (false, ())
      else
      bif (y7.1.2.2.2.2.2.2.2.1.length : Int) == (a0.2.2.2.2.2.2.2.1.length : Int) then
       bif y7.2.1 != 4 then
        some (true, ())
       else
       bif (y7.1.2.2.2.2.2.2.2.1.length : Int) == (wi64 ((a0.2.2.2.2.2.2.2.1.length : Int) + 1)) then
        bif y7.2.1 == 4 then
         some (y7.1.2.2.2.2.1 == 2, ())
        else
        some (false, ())
       else
       some (false, ())
      else
      bif (y7.1.2.2.2.2.2.2.2.1.length : Int) == (wi64 ((a0.2.2.2.2.2.2.2.1.length : Int) + 1)) then
       bif y7.2.1 == 4 then
        some (y7.1.2.2.2.2.1 == 2, ())
       else
       some (false, ())
      else
      some (false, ())
     else
     bif (y7.1.2.2.2.2.2.2.2.1.length : Int) == (a0.2.2.2.2.2.2.2.1.length : Int) then
      bif y7.2.1 != 4 then
       some (true, ())
      else
      bif (y7.1.2.2.2.2.2.2.2.1.length : Int) == (wi64 ((a0.2.2.2.2.2.2.2.1.length : Int) + 1)) then
       bif y7.2.1 == 4 then
        some (y7.1.2.2.2.2.1 == 2, ())
       else
       some (false, ())
      else
      some (false, ())
     else
     bif (y7.1.2.2.2.2.2.2.2.1.length : Int) == (wi64 ((a0.2.2.2.2.2.2.2.1.length : Int) + 1)) then
      bif y7.2.1 == 4 then
       some (y7.1.2.2.2.2.1 == 2, ())
      else
      some (false, ())
     else
     some (false, ())
    else
    bif !((y7.2.1 == 3) == false) then
     some (false, ())
    else
    bif !((y7.1.2.2.2.2.2.2.1 == (wi64 (a0.2.2.2.2.2.2.1 + 1))) == false) then
     some (false, ())
    else
    bif y7.1.2.2.2.2.2.2.1 != a0.2.2.2.2.2.2.1 then
     some (false, ())
    else
    bif (y7.1.2.2.2.2.2.2.2.1.length : Int) == (a0.2.2.2.2.2.2.2.1.length : Int) then
     bif y7.2.1 != 4 then
      some (true, ())
     else
     bif (y7.1.2.2.2.2.2.2.2.1.length : Int) == (wi64 ((a0.2.2.2.2.2.2.2.1.length : Int) + 1)) then
      bif y7.2.1 == 4 then
       some (y7.1.2.2.2.2.1 == 2, ())
      else
      some (false, ())
     else
     some (false, ())
    else
    bif (y7.1.2.2.2.2.2.2.2.1.length : Int) == (wi64 ((a0.2.2.2.2.2.2.2.1.length : Int) + 1)) then
     bif y7.2.1 == 4 then
      some (y7.1.2.2.2.2.1 == 2, ())
     else
     some (false, ())
    else
    some (false, ())
   else
   bif a0.2.2.2.2.1 == 0 then
    bif !((y7.2.1 == 3) == a0.2.2.2.2.2.1) then
     some (false, ())
    else
    bif !((y7.1.2.2.2.2.2.2.1 == (wi64 (a0.2.2.2.2.2.2.1 + 1))) == a0.2.2.2.2.2.1) then
     some (false, ())
    else
    bif y7.1.2.2.2.2.2.2.1 != a0.2.2.2.2.2.2.1 then
     bif !a0.2.2.2.2.2.1 then
      some (false, ())
     else
     bif (y7.1.2.2.2.2.2.2.2.1.length : Int) == (a0.2.2.2.2.2.2.2.1.length : Int) then
      bif y7.2.1 != 4 then
       some (true, ())
      else
      bif (y7.1.2.2.2.2.2.2.2.1.length : Int) == (wi64 ((a0.2.2.2.2.2.2.2.1.length : Int) + 1)) then
       bif y7.2.1 == 4 then
        some (y7.1.2.2.2.2.1 == 2, ())
       else
       some (false, ())
      else
      some (false, ())
     else
     bif (y7.1.2.2.2.2.2.2.2.1.length : Int) == (wi64 ((a0.2.2.2.2.2.2.2.1.length : Int) + 1)) then
      bif y7.2.1 == 4 then
       some (y7.1.2.2.2.2.1 == 2, ())
      else
      some (false, ())
     else
     some (false, ())
    else
    bif (y7.1.2.2.2.2.2.2.2.1.length : Int) == (a0.2.2.2.2.2.2.2.1.length : Int) then
     bif y7.2.1 != 4 then
      some (true, ())
     else
     bif (y7.1.2.2.2.2.2.2.2.1.length : Int) == (wi64 ((a0.2.2.2.2.2.2.2.1.length : Int) + 1)) then
      bif y7.2.1 == 4 then
       some (y7.1.2.2.2.2.1 == 2, ())
      else
      some (false, ())
     else
     some (false, ())
    else
    bif (y7.1.2.2.2.2.2.2.2.1.length : Int) == (wi64 ((a0.2.2.2.2.2.2.2.1.length : Int) + 1)) then
     bif y7.2.1 == 4 then
      some (y7.1.2.2.2.2.1 == 2, ())
     else
     some (false, ())
    else
    some (false, ())
   else
   bif !((y7.2.1 == 3) == false) then
    some (false, ())
   else
   bif !((y7.1.2.2.2.2.2.2.1 == (wi64 (a0.2.2.2.2.2.2.1 + 1))) == false) then
    some (false, ())
   else
   bif y7.1.2.2.2.2.2.2.1 != a0.2.2.2.2.2.2.1 then
    some (false, ())
   else
   bif (y7.1.2.2.2.2.2.2.2.1.length : Int) == (a0.2.2.2.2.2.2.2.1.length : Int) then
    bif y7.2.1 != 4 then
     some (true, ())
    else
    bif (y7.1.2.2.2.2.2.2.2.1.length : Int) == (wi64 ((a0.2.2.2.2.2.2.2.1.length : Int) + 1)) then
     bif y7.2.1 == 4 then
      some (y7.1.2.2.2.2.1 == 2, ())
     else
     some (false, ())
    else
    some (false, ())
   else
   bif (y7.1.2.2.2.2.2.2.2.1.length : Int) == (wi64 ((a0.2.2.2.2.2.2.2.1.length : Int) + 1)) then
    bif y7.2.1 == 4 then
     some (y7.1.2.2.2.2.1 == 2, ())
    else
    some (false, ())
   else
   some (false, ())
  else
  bif a0.2.2.2.2.1 == 0 then
   bif !a0.2.2.2.2.2.1 then
    bif y7.2.1 != 0 then
     some (false, ())
    else
    (r20_Same (y7.1, a0, ())).bind fun y16 =>
    bif !y16.1 then
     some (false, ())
    else
    bif a0.2.2.2.2.1 == 0 then
     bif !((y7.2.1 == 3) == a0.2.2.2.2.2.1) then
      some (false, ())
     else
     bif !((y7.1.2.2.2.2.2.2.1 == (wi64 (a0.2.2.2.2.2.2.1 + 1))) == a0.2.2.2.2.2.1) then
      some (false, ())
     else
     bif y7.1.2.2.2.2.2.2.1 != a0.2.2.2.2.2.2.1 then
      bif !a0.2.2.2.2.2.1 then
       some (false, ())
      else
      bif (y7.1.2.2.2.2.2.2.2.1.length : Int) == (a0.2.2.2.2.2.2.2.1.length : Int) then
       bif y7.2.1 != 4 then
        some (true, ())
       else
       bif (y7.1.2.2.2.2.2.2.2.1.length : Int) == (wi64 ((a0.2.2.2.2.2.2.2.1.length : Int) + 1)) then
        bif y7.2.1 == 4 then
         some (y7.1.2.2.2.2.1 == 2, ())
        else
        some (false, ())
       else
       some (false, ())
      else
      bif (y7.1.2.2.2.2.2.2.2.1.length : Int) == (wi64 ((a0.2.2.2.2.2.2.2.1.length : Int) + 1)) then
       bif y7.2.1 == 4 then
        some (y7.1.2.2.2.2.1 == 2, ())
       else
       some (false, ())
      else
      some (false, ())
     else
     bif (y7.1.2.2.2.2.2.2.2.1.length : Int) == (a0.2.2.2.2.2.2.2.1.length : Int) then
      bif y7.2.1 != 4 then
       some (true, ())
      else
      bif (y7.1.2.2.2.2.2.2.2.1.length : Int) == (wi64 ((a0.2.2.2.2.2.2.2.1.length : Int) + 1)) then
       bif y7.2.1 == 4 then
        some (y7.1.2.2.2.2.1 == 2, ())
       else
       some (false, ())
      else
      some (false, ())
     else
     bif (y7.1.2.2.2.2.2.2.2.1.length : Int) == (wi64 ((a0.2.2.2.2.2.2.2.1.length : Int) + 1)) then
      bif y7.2.1 == 4 then
       some (y7.1.2.2.2.2.1 == 2, ())
      else
      some (false, ())
     else
     some (false, ())
    else
    bif !((y7.2.1 == 3) == false) then
     some (false, ())
    else
    bif !((y7.1.2.2.2.2.2.2.1 == (wi64 (a0.2.2.2.2.2.2.1 + 1))) == false) then
     some (false, ())
    else
    bif y7.1.2.2.2.2.2.2.1 != a0.2.2.2.2.2.2.1 then
     some (false, ())
    else
    bif (y7.1.2.2.2.2.2.2.2.1.length : Int) == (a0.2.2.2.2.2.2.2.1.length : Int) then
     bif y7.2.1 != 4 then
      some (true, ())
     else
     bif (y7.1.2.2.2.2.2.2.2.1.length : Int) == (wi64 ((a0.2.2.2.2.2.2.2.1.length : Int) + 1)) then
      bif y7.2.1 == 4 then
       some (y7.1.2.2.2.2.1 == 2, ())
      else
      some (false, ())
     else
     some (false, ())
    else
    bif (y7.1.2.2.2.2.2.2.2.1.length : Int) == (wi64 ((a0.2.2.2.2.2.2.2.1.length : Int) + 1)) then
     bif y7.2.1 == 4 then
      some (y7.1.2.2.2.2.1 == 2, ())
     else
     some (false, ())
    else
    some (false, ())
   else
   bif a0.2.2.2.2.1 == 0 then
    bif !((y7.2.1 == 3) == a0.2.2.2.2.2.1) then
     some (false, ())
    else
    bif !((y7.1.2.2.2.2.2.2.1 == (wi64 (a0.2.2.2.2.2.2.1 + 1))) == a0.2.2.2.2.2.1) then
     some (false, ())
    else
    bif y7.1.2.2.2.2.2.2.1 != a0.2.2.2.2.2.2.1 then
     bif !a0.2.2.2.2.2.1 then
      some (false, ())
     else
     bif (y7.1.2.2.2.2.2.2.2.1.length : Int) == (a0.2.2.2.2.2.2.2.1.length : Int) then
      bif y7.2.1 != 4 then
       some (true, ())
      else
      bif (y7.1.2.2.2.2.2.2.2.1.length : Int) == (wi64 ((a0.2.2.2.2.2.2.2.1.length : Int) + 1)) then
       bif y7.2.1 == 4 then
        some (y7.1.2.2.2.2.1 == 2, ())
       else
       some (false, ())
      else
      some (false, ())
     else
     bif (y7.1.2.2.2.2.2.2.2.1.length : Int) == (wi64 ((a0.2.2.2.2.2.2.2.1.length : Int) + 1)) then
      bif y7.2.1 == 4 then
       some (y7.1.2.2.2.2.1 == 2, ())
      else
      some (false, ())
     else
     some (false, ())
    else
    bif (y7.1.2.2.2.2.2.2.2.1.length : Int) == (a0.2.2.2.2.2.2.2.1.length : Int) then
     bif y7.2.1 != 4 then
      some (true, ())
     else
     bif (y7.1.2.2.2.2.2.2.2.1.length : Int) == (wi64 ((a0.2.2.2.2.2.2.2.1.length : Int) + 1)) then
      bif y7.2.1 == 4 then
       some (y7.1.2.2.2.2.1 == 2, ())
      else
      some (false, ())
     else
     some (false, ())
    else
    bif (y7.1.2.2.2.2.2.2.2.1.length : Int) == (wi64 ((a0.2.2.2.2.2.2.2.1.length : Int) + 1)) then
     bif y7.2.1 == 4 then
      some (y7.1.2.2.2.2.1 == 2, ())
     else
     some (false, ())
    else
    some (false, ())
   else
   bif !((y7.2.1 == 3) == false) then
    some (false, ())
   else
   bif !((y7.1.2.2.2.2.2.2.1 == (wi64 (a0.2.2.2.2.2.2.1 + 1))) == false) then
    some (false, ())
   else
   bif y7.1.2.2.2.2.2.2.1 != a0.2.2.2.2.2.2.1 then
    some (false, ())
   else
   bif (y7.1.2.2.2.2.2.2.2.1.length : Int) == (a0.2.2.2.2.2.2.2.1.length : Int) then
    bif y7.2.1 != 4 then
     some (true, ())
    else
    bif (y7.1.2.2.2.2.2.2.2.1.length : Int) == (wi64 ((a0.2.2.2.2.2.2.2.1.length : Int) + 1)) then
     bif y7.2.1 == 4 then
      some (y7.1.2.2.2.2.1 == 2, ())
     else
     some (false, ())
    else
    some (false, ())
   else
   bif (y7.1.2.2.2.2.2.2.2.1.length : Int) == (wi64 ((a0.2.2.2.2.2.2.2.1.length : Int) + 1)) then
    bif y7.2.1 == 4 then
     some (y7.1.2.2.2.2.1 == 2, ())
    else
    some (false, ())
   else
   some (false, ())
  else
  bif a0.2.2.2.2.1 == 0 then
   bif !((y7.2.1 == 3) == a0.2.2.2.2.2.1) then
    some (false, ())
   else
   bif !((y7.1.2.2.2.2.2.2.1 == (wi64 (a0.2.2.2.2.2.2.1 + 1))) == a0.2.2.2.2.2.1) then
    some (false, ())
   else
   bif y7.1.2.2.2.2.2.2.1 != a0.2.2.2.2.2.2.1 then
    bif !a0.2.2.2.2.2.1 then
     some (false, ())
    else
    bif (y7.1.2.2.2.2.2.2.2.1.length : Int) == (a0.2.2.2.2.2.2.2.1.length : Int) then
     bif y7.2.1 != 4 then
      some (true, ())
     else
     bif (y7.1.2.2.2.2.2.2.2.1.length : Int) == (wi64 ((a0.2.2.2.2.2.2.2.1.length : Int) + 1)) then
      bif y7.2.1 == 4 then
       some (y7.1.2.2.2.2.1 == 2, ())
      else
      some (false, ())
     else
     some (false, ())
    else
    bif (y7.1.2.2.2.2.2.2.2.1.length : Int) == (wi64 ((a0.2.2.2.2.2.2.2.1.length : Int) + 1)) then
     bif y7.2.1 == 4 then
      some (y7.1.2.2.2.2.1 == 2, ())
     else
     some (false, ())
    else
    some (false, ())
   else
   bif (y7.1.2.2.2.2.2.2.2.1.length : Int) == (a0.2.2.2.2.2.2.2.1.length : Int) then
    bif y7.2.1 != 4 then
     some (true, ())
    else
    bif (y7.1.2.2.2.2.2.2.2.1.length : Int) == (wi64 ((a0.2.2.2.2.2.2.2.1.length : Int) + 1)) then
     bif y7.2.1 == 4 then
      some (y7.1.2.2.2.2.1 == 2, ())
     else
     some (false, ())
    else
    some (false, ())
   else
   bif (y7.1.2.2.2.2.2.2.2.1.length : Int) == (wi64 ((a0.2.2.2.2.2.2.2.1.length : Int) + 1)) then
    bif y7.2.1 == 4 then
     some (y7.1.2.2.2.2.1 == 2, ())
    else
    some (false, ())
   else
   some (false, ())
  else
  bif !((y7.2.1 == 3) == false) then
   some (false, ())
  else
  bif !((y7.1.2.2.2.2.2.2.1 == (wi64 (a0.2.2.2.2.2.2.1 + 1))) == false) then
   some (false, ())
  else
  bif y7.1.2.2.2.2.2.2.1 != a0.2.2.2.2.2.2.1 then
   some (false, ())
  else
  bif (y7.1.2.2.2.2.2.2.2.1.length : Int) == (a0.2.2.2.2.2.2.2.1.length : Int) then
   bif y7.2.1 != 4 then
    some (true, ())
   else
   bif (y7.1.2.2.2.2.2.2.2.1.length : Int) == (wi64 ((a0.2.2.2.2.2.2.2.1.length : Int) + 1)) then
    bif y7.2.1 == 4 then
     some (y7.1.2.2.2.2.1 == 2, ())
    else
    some (false, ())
   else
   some (false, ())
  else
  bif (y7.1.2.2.2.2.2.2.2.1.length : Int) == (wi64 ((a0.2.2.2.2.2.2.2.1.length : Int) + 1)) then
   bif y7.2.1 == 4 then
    some (y7.1.2.2.2.2.1 == 2, ())
   else
   some (false, ())
  else
  some (false, ())
 else
 bif a0.2.2.2.2.1 == 0 then
  bif !a0.2.2.2.2.2.1 then
   bif y7.2.1 != 0 then
    some (false, ())
   else
   (r20_Same (y7.1, a0, ())).bind fun y17 =>
   bif !y17.1 then
    some (false, ())
   else
   bif a0.2.2.2.2.1 == 0 then
    bif !((y7.2.1 == 3) == a0.2.2.2.2.2.1) then
     some (false, ())
    else
    bif !((y7.1.2.2.2.2.2.2.1 == (wi64 (a0.2.2.2.2.2.2.1 + 1))) == a0.2.2.2.2.2.1) then
     some (false, ())
    else
    bif y7.1.2.2.2.2.2.2.1 != a0.2.2.2.2.2.2.1 then
     bif !a0.2.2.2.2.2.1 then
      some (false, ())
     else
     bif (y7.1.2.2.2.2.2.2.2.1.length : Int) == (a0.2.2.2.2.2.2.2.1.length : Int) then
      bif y7.2.1 != 4 then
       some (true, ())
      else
      bif (y7.1.2.2.2.2.2.2.2.1.length : Int) == (wi64 ((a0.2.2.2.2.2.2.2.1.length : Int) + 1)) then
       bif y7.2.1 == 4 then
        some (y7.1.2.2.2.2.1 == 2, ())
       else
       some (false, ())
      else
      some (false, ())
     else
     bif (y7.1.2.2.2.2.2.2.2.1.length : Int) == (wi64 ((a0.2.2.2.2.2.2.2.1.length : Int) + 1)) then
      bif y7.2.1 == 4 then
       some (y7.1.2.2.2.2.1 == 2, ())
      else
      some (false, ())
     else
     some (false, ())
    else
    bif (y7.1.2.2.2.2.2.2.2.1.length : Int) == (a0.2.2.2.2.2.2.2.1.length : Int) then
     bif y7.2.1 != 4 then
      some (true, ())
     else
     bif (y7.1.2.2.2.2.2.2.2.1.length : Int) == (wi64 ((a0.2.2.2.2.2.2.2.1.length : Int) + 1)) then
      bif y7.2.1 == 4 then
       some (y7.1.2.2.2.2.1 == 2, ())
      else
      some (false, ())
     else
     some (false, ())
    else
    bif (y7.1.2.2.2.2.2.2.2.1.length : Int) == (wi64 ((a0.2.2.2.2.2.2.2.1.length : Int) + 1)) then
     bif y7.2.1 == 4 then
      some (y7.1.2.2.2.2.1 == 2, ())
     else
     some (false, ())
    else
    some (false, ())
   else
   bif !((y7.2.1 == 3) == false) then
    some (false, ())
   else
   bif !((y7.1.2.2.2.2.2.2.1 == (wi64 (a0.2.2.2.2.2.2.1 + 1))) == false) then
    some (false, ())
   else
   bif y7.1.2.2.2.2.2.2.1 != a0.2.2.2.2.2.2.1 then
    some (false, ())
   else
   bif (y7.1.2.2.2.2.2.2.2.1.length : Int) == (a0.2.2.2.2.2.2.2.1.length : Int) then
    bif y7.2.1 != 4 then
     some (true, ())
    else
    bif (y7.1.2.2.2.2.2.2.2.1.length : Int) == (wi64 ((a0.2.2.2.2.2.2.2.1.length : Int) + 1)) then
     bif y7.2.1 == 4 then
      some (y7.1.2.2.2.2.1 == 2, ())
     else
     some (false, ())
    else
    some (false, ())
   else
   bif (y7.1.2.2.2.2.2.2.2.1.length : Int) == (wi64 ((a0.2.2.2.2.2.2.2.1.length : Int) + 1)) then
    bif y7.2.1 == 4 then
     some (y7.1.2.2.2.2.1 == 2, ())
    else
    some (false, ())
   else
   some (false, ())
  else
  bif a0.2.2.2.2.1 == 0 then
   bif !((y7.2.1 == 3) == a0.2.2.2.2.2.1) then
    some (false, ())
   else
   bif !((y7.1.2.2.2.2.2.2.1 == (wi64 (a0.2.2.2.2.2.2.1 + 1))) == a0.2.2.2.2.2.1) then
    some (false, ())
   else
   bif y7.1.2.2.2.2.2.2.1 != a0.2.2.2.2.2.2.1 then
    bif !a0.2.2.2.2.2.1 then
     some (false, ())
    else
    bif (y7.1.2.2.2.2.2.2.2.1.length : Int) == (a0.2.2.2.2.2.2.2.1.length : Int) then
     bif y7.2.1 != 4 then
      some (true, ())
     else
     bif (y7.1.2.2.2.2.2.2.2.1.length : Int) == (wi64 ((a0.2.2.2.2.2.2.2.1.length : Int) + 1)) then
      bif y7.2.1 == 4 then
       some (y7.1.2.2.2.2.1 == 2, ())
      else
      some (false, ())
     else
     some (false, ())
    else
    bif (y7.1.2.2.2.2.2.2.2.1.length : Int) == (wi64 ((a0.2.2.2.2.2.2.2.1.length : Int) + 1)) then
     bif y7.2.1 == 4 then
      some (y7.1.2.2.2.2.1 == 2, ())
     else
     some (false, ())
    else
    some (false, ())
   else
   bif (y7.1.2.2.2.2.2.2.2.1.length : Int) == (a0.2.2.2.2.2.2.2.1.length : Int) then
    bif y7.2.1 != 4 then
     some (true, ())
    else
    bif (y7.1.2.2.2.2.2.2.2.1.length : Int) == (wi64 ((a0.2.2.2.2.2.2.2.1.length : Int) + 1)) then
     bif y7.2.1 == 4 then
      some (y7.1.2.2.2.2.1 == 2, ())
     else
     some (false, ())
    else
    some (false, ())
   else
   bif (y7.1.2.2.2.2.2.2.2.1.length : Int) == (wi64 ((a0.2.2.2.2.2.2.2.1.length : Int) + 1)) then
    bif y7.2.1 == 4 then
     some (y7.1.2.2.2.2.1 == 2, ())
    else
    some (false, ())
   else
   some (false, ())
  else
  bif !((y7.2.1 == 3) == false) then
   some (false, ())
  else
  bif !((y7.1.2.2.2.2.2.2.1 == (wi64 (a0.2.2.2.2.2.2.1 + 1))) == false) then
   some (false, ())
  else
  bif y7.1.2.2.2.2.2.2.1 != a0.2.2.2.2.2.2.1 then
   some (false, ())
  else
  bif (y7.1.2.2.2.2.2.2.2.1.length : Int) == (a0.2.2.2.2.2.2.2.1.length : Int) then
   bif y7.2.1 != 4 then
    some (true, ())
   else
   bif (y7.1.2.2.2.2.2.2.2.1.length : Int) == (wi64 ((a0.2.2.2.2.2.2.2.1.length : Int) + 1)) then
    bif y7.2.1 == 4 then
     some (y7.1.2.2.2.2.1 == 2, ())
    else
    some (false, ())
   else
   some (false, ())
  else
  bif (y7.1.2.2.2.2.2.2.2.1.length : Int) == (wi64 ((a0.2.2.2.2.2.2.2.1.length : Int) + 1)) then
   bif y7.2.1 == 4 then
    some (y7.1.2.2.2.2.1 == 2, ())
   else
   some (false, ())
  else
  some (false, ())
 else
 bif a0.2.2.2.2.1 == 0 then
  bif !((y7.2.1 == 3) == a0.2.2.2.2.2.1) then
   some (false, ())
  else
  bif !((y7.1.2.2.2.2.2.2.1 == (wi64 (a0.2.2.2.2.2.2.1 + 1))) == a0.2.2.2.2.2.1) then
   some (false, ())
  else
  bif y7.1.2.2.2.2.2.2.1 != a0.2.2.2.2.2.2.1 then
   bif !a0.2.2.2.2.2.1 then
    some (false, ())
   else
   bif (y7.1.2.2.2.2.2.2.2.1.length : Int) == (a0.2.2.2.2.2.2.2.1.length : Int) then
    bif y7.2.1 != 4 then
     some (true, ())
    else
    bif (y7.1.2.2.2.2.2.2.2.1.length : Int) == (wi64 ((a0.2.2.2.2.2.2.2.1.length : Int) + 1)) then
     bif y7.2.1 == 4 then
      some (y7.1.2.2.2.2.1 == 2, ())
     else
     some (false, ())
    else
    some (false, ())
   else
   bif (y7.1.2.2.2.2.2.2.2.1.length : Int) == (wi64 ((a0.2.2.2.2.2.2.2.1.length : Int) + 1)) then
    bif y7.2.1 == 4 then
     some (y7.1.2.2.2.2.1 == 2, ())
    else
    some (false, ())
   else
   some (false, ())
  else
  bif (y7.1.2.2.2.2.2.2.2.1.length : Int) == (a0.2.2.2.2.2.2.2.1.length : Int) then
   bif y7.2.1 != 4 then
    some (true, ())
   else
   bif (y7.1.2.2.2.2.2.2.2.1.length : Int) == (wi64 ((a0.2.2.2.2.2.2.2.1.length : Int) + 1)) then
    bif y7.2.1 == 4 then
     some (y7.1.2.2.2.2.1 == 2, ())
    else
    some (false, ())
   else
   some (false, ())
  else
  bif (y7.1.2.2.2.2.2.2.2.1.length : Int) == (wi64 ((a0.2.2.2.2.2.2.2.1.length : Int) + 1)) then
   bif y7.2.1 == 4 then
    some (y7.1.2.2.2.2.1 == 2, ())
   else
   some (false, ())
  else
  some (false, ())
 else
 bif !((y7.2.1 == 3) == false) then
  some (false, ())
 else
 bif !((y7.1.2.2.2.2.2.2.1 == (wi64 (a0.2.2.2.2.2.2.1 + 1))) == false) then
  some (false, ())
 else
 bif y7.1.2.2.2.2.2.2.1 != a0.2.2.2.2.2.2.1 then
  some (false, ())
 else
 bif (y7.1.2.2.2.2.2.2.2.1.length : Int) == (a0.2.2.2.2.2.2.2.1.length : Int) then
  bif y7.2.1 != 4 then
   some (true, ())
  else
  bif (y7.1.2.2.2.2.2.2.2.1.length : Int) == (wi64 ((a0.2.2.2.2.2.2.2.1.length : Int) + 1)) then
   bif y7.2.1 == 4 then
    some (y7.1.2.2.2.2.1 == 2, ())
   else
   some (false, ())
  else
  some (false, ())
 else
 bif (y7.1.2.2.2.2.2.2.2.1.length : Int) == (wi64 ((a0.2.2.2.2.2.2.2.1.length : Int) + 1)) then
  bif y7.2.1 == 4 then
   some (y7.1.2.2.2.2.1 == 2, ())
  else
  some (false, ())
 else
 some (false, ())
def w20_CyclePhases (x : Wrld × Unit) : Option (Bool × Unit) := w20_CyclePhases_r x.1
def w20_CyclePhases_sm : Sum := ⟨(.cons cWrld .nil), (.cons (.d .bool) .nil), w20_CyclePhases⟩
def w20_CyclePhases_c : Ctx := ⟨[(14, r20_Same_sm), (22, w20_awake_sm), (23, w20_fits_sm), (26, cycle_Marker_sm), (31, cycle_Sweeper_sm)], [], []⟩
theorem w20_CyclePhases_sem : SemOf Tryz.prog 9 w20_CyclePhases_sm := semC (c := w20_CyclePhases_c) Tryz.func9 (sc r20_Same_sem (sc w20_awake_sem (sc w20_fits_sem (sc cycle_Marker_sem (sc cycle_Sweeper_sem an))))) an an 8
end
end Go.Proofs.YtkjpakaidjpjgaaGreatDoor.Den
