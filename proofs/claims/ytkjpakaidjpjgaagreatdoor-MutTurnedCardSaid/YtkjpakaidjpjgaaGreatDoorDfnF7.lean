/- What functions come to. Printed by a program of this session. -/
import Derived.Test.YtkjpakaidjpjgaaGreatDoorDfnF6
namespace Go.Proofs.YtkjpakaidjpjgaaGreatDoor.Dfn
open Go
set_option maxRecDepth 100000
set_option linter.unusedVariables false
noncomputable section
def w21_quiet_r (a0 : Mut) (a1 : Int × Int × Val) : Option (Bool × Unit) :=
 bif a0.2.1 == 0 then
  bif a1.1 == 1 then
   some (true, ())
  else
  bif a1.1 == 3 then
   some (true, ())
  else
  bif a1.1 == 4 then
   some (true, ())
  else
  some (a1.1 == 5, ())
 else
 bif a0.2.1 == 2 then
  some (true, ())
 else
 some (a0.2.1 == 3, ())
def w21_quiet (x : Mut × (Int × Int × Val) × Unit) : Option (Bool × Unit) := w21_quiet_r x.1 x.2.1
def w21_quiet_sm : Sum := ⟨(.cons cMut (.cons (.cons cI (.cons cI cVal)) .nil)), (.cons (.d .bool) .nil), w21_quiet⟩
def w21_quiet_c : Ctx := ⟨[], [], []⟩
theorem w21_quiet_sem : SemOf Tryz.prog 16 w21_quiet_sm := semC (c := w21_quiet_c) Tryz.func16 an an an 8
def w21_MutTurned_r (a0 : Wrld) (a1 : Int) (a2 : Int) (a3 : Int × Int × Val) (a4 : Int × Int × Val) : Option (Bool × Unit) :=
 (w21_awake ()).bind fun y1 =>
 bif !y1.1 then
  (w21_awake ()).bind fun y2 =>
  some (y2.1, ())
 else
 (w21_fits (a0, a1, ())).bind fun y3 =>
 bif !y3.1 then
  (w21_awake ()).bind fun y4 =>
  some (y4.1, ())
 else
 (w21_fits (a0, a2, ())).bind fun y5 =>
 bif !y5.1 then
  (w21_awake ()).bind fun y6 =>
  some (y6.1, ())
 else
 bif a1 == a2 then
  (w21_awake ()).bind fun y7 =>
  some (y7.1, ())
 else
 bif decide (0 ≤ a1) then
  bif decide (a1 < (a0.2.2.1.length : Int)) then
   (w21_quiet (a0.2.2.1.getD a1.toNat ([], 0, (0, 0, 0, 0, ()), 0, (0, 0, ()), List.replicate 4 0, ()), a3, ())).bind fun y8 =>
   bif !y8.1 then
    (w21_awake ()).bind fun y9 =>
    some (y9.1, ())
   else
   bif decide (0 ≤ a2) then
    bif decide (a2 < (a0.2.2.1.length : Int)) then
     (w21_quiet (a0.2.2.1.getD a2.toNat ([], 0, (0, 0, 0, 0, ()), 0, (0, 0, ()), List.replicate 4 0, ()), a4, ())).bind fun y10 =>
     bif !y10.1 then
      (w21_awake ()).bind fun y11 =>
      some (y11.1, ())
     else
     (mut_Turn (a0, a1, a3, ())).bind fun y12 =>
     bif (y12.1.2.2.1.length : Int) != (a0.2.2.1.length : Int) then
      some (false, ())
     else
     (mut_Turn ((y12.1.1, y12.1.2.1, y12.1.2.2.1, y12.1.2.2.2), a2, a4, ())).bind fun y13 =>
     (mut_Turn (a0, a2, a4, ())).bind fun y14 =>
     bif (y14.1.2.2.1.length : Int) != (a0.2.2.1.length : Int) then
      some (false, ())
     else
     (mut_Turn ((y14.1.1, y14.1.2.1, y14.1.2.2.1, y14.1.2.2.2), a1, a3, ())).bind fun y15 =>
     (r20_Same ((y13.1.1, y13.1.2.1, y13.1.2.2.1, y13.1.2.2.2), (y15.1.1, y15.1.2.1, y15.1.2.2.1, y15.1.2.2.2), ())).bind fun y16 =>
     bif y16.1 then
      bif (y12.2.1.1 == y15.2.1.1) && ((y12.2.1.2.1 == y15.2.1.2.1) && ((y12.2.1.2.2.1 == y15.2.1.2.2.1) && (((y12.2.1.2.2.2.1.1 == y15.2.1.2.2.2.1.1) && ((y12.2.1.2.2.2.1.2.1 == y15.2.1.2.2.2.1.2.1) && true)) && true))) then
       some ((y13.2.1.1 == y14.2.1.1) && ((y13.2.1.2.1 == y14.2.1.2.1) && ((y13.2.1.2.2.1 == y14.2.1.2.2.1) && (((y13.2.1.2.2.2.1.1 == y14.2.1.2.2.2.1.1) && ((y13.2.1.2.2.2.1.2.1 == y14.2.1.2.2.2.1.2.1) && true)) && true))), ())
      else
      some (false, ())
     else
     some (false, ())
    else none
   else none
  else none
 else none
def w21_MutTurned (x : Wrld × Int × Int × (Int × Int × Val) × (Int × Int × Val) × Unit) : Option (Bool × Unit) := w21_MutTurned_r x.1 x.2.1 x.2.2.1 x.2.2.2.1 x.2.2.2.2.1
def w21_MutTurned_sm : Sum := ⟨(.cons cWrld (.cons cI (.cons cI (.cons (.cons cI (.cons cI cVal)) (.cons (.cons cI (.cons cI cVal)) .nil))))), (.cons (.d .bool) .nil), w21_MutTurned⟩
def w21_MutTurned_c : Ctx := ⟨[(10, w21_awake_sm), (11, w21_fits_sm), (13, mut_Turn_sm), (14, r20_Same_sm), (16, w21_quiet_sm)], [], []⟩
theorem w21_MutTurned_sem : SemOf Tryz.prog 4 w21_MutTurned_sm := semC (c := w21_MutTurned_c) Tryz.func4 (sc w21_awake_sem (sc w21_fits_sem (sc mut_Turn_sem (sc r20_Same_sem (sc w21_quiet_sem an))))) an an 8
end
end Go.Proofs.YtkjpakaidjpjgaaGreatDoor.Dfn
