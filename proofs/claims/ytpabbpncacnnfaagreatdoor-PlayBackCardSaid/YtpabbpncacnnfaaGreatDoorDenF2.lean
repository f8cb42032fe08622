/- What functions come to. Printed by a program of this session. -/
import Derived.Test.YtpabbpncacnnfaaGreatDoorDenF1
namespace Go.Proofs.YtpabbpncacnnfaaGreatDoor.Den
open Go
set_option maxRecDepth 100000
set_option linter.unusedVariables false
noncomputable section
def cycle_Tell (_ : Wrld × Unit) : Option (Rep × Unit) := none
def cycle_Tell_sm : Sum := ⟨(.cons cWrld .nil), (.cons (.d cRep) .nil), cycle_Tell⟩
theorem cycle_Tell_sem : SemOf Tryz.prog 150 cycle_Tell_sm := semDead Tryz.func150 (fun _ => rfl)
def cycle_marking_r (a0 : Wrld) : Option (Wrld × Int × Unit) :=
 (mark_Step (a0.2.1, a0.2.2.2.1, ())).bind fun y1 =>
 bif !y1.2.2.1 then
  some ((a0.1, y1.1, a0.2.2.1, y1.2.1, a0.2.2.2.2), 1, ())
 else
 (cycle_Tell (a0, ())).bind fun y2 =>
 (slices_ConcatR ([a0.2.2.2.2.2.2.2.1, [y2.1]], ())).bind fun y3 =>
 (sweep_Begin (a0.2.1, ())).bind fun y4 =>
 some ((a0.1, y4.1, a0.2.2.1, ((0, [], ()), [], [], 0, 0, 0, false, ()), 2, a0.2.2.2.2.2.1, a0.2.2.2.2.2.2.1, y3.1, a0.2.2.2.2.2.2.2.2), 4, ())
def cycle_marking (x : Wrld × Unit) : Option (Wrld × Int × Unit) := cycle_marking_r x.1
def cycle_marking_sm : Sum := ⟨(.cons cWrld .nil), (.cons (.d cWrld) (.cons (.d cI) .nil)), cycle_marking⟩
def cycle_marking_c : Ctx := ⟨[(136, sweep_Begin_sm), (148, mark_Step_sm), (149, slices_ConcatR_sm), (150, cycle_Tell_sm)], [], []⟩
theorem cycle_marking_sem : SemOf Tryz.prog 133 cycle_marking_sm := semC (c := cycle_marking_c) Tryz.func133 (sc sweep_Begin_sem (sc mark_Step_sem (sc slices_ConcatR_sem (sc cycle_Tell_sem an)))) an an 8
def cycle_phases_r  : Option ((List (Int × Nat × Unit)) × Unit) :=
 some ([(0, 133, ()), (1, 134, ()), (2, 106, ())], ())
def cycle_phases (x : Unit) : Option ((List (Int × Nat × Unit)) × Unit) := cycle_phases_r 
def cycle_phases_sm : Sum := ⟨.nil, (.cons (.omap .fn) .nil), cycle_phases⟩
def cycle_phases_c : Ctx := ⟨[], [], []⟩
theorem cycle_phases_sem : SemOf Tryz.prog 122 cycle_phases_sm := semC (c := cycle_phases_c) Tryz.func122 an an an 8
def cycle_Marker_r (a0 : Wrld) : Option (Wrld × Int × Unit) :=
 bif 0 == a0.2.2.2.2.1 then
  (cycle_idle (a0, ())).bind fun y1 =>
  some (y1.1, y1.2.1, ())
 else
 bif 1 == a0.2.2.2.2.1 then
  (cycle_marking (a0, ())).bind fun y2 =>
  some (y2.1, y2.2.1, ())
 else
 bif 2 == a0.2.2.2.2.1 then
  (cycle_Sweeper (a0, ())).bind fun y3 =>
  some (y3.1, y3.2.1, ())
 else
 some (a0, 0, ())
def cycle_Marker (x : Wrld × Unit) : Option (Wrld × Int × Unit) := cycle_Marker_r x.1
def cycle_Marker_sm : Sum := ⟨(.cons cWrld .nil), (.cons (.d cWrld) (.cons (.d cI) .nil)), cycle_Marker⟩
def cycle_Marker_c : Ctx := ⟨[(105, cycle_Sweeper_sm), (122, cycle_phases_sm), (132, cycle_idle_sm), (133, cycle_marking_sm)], [], []⟩
theorem cycle_Marker_sem : SemOf Tryz.prog 104 cycle_Marker_sm := semC (c := cycle_Marker_c) Tryz.func104 (sc cycle_Sweeper_sem (sc cycle_phases_sem (sc cycle_idle_sem (sc cycle_marking_sem an)))) an an 8
def world_whose_0_r (a0 : Wrld) (a1 : Int × (Int × Int × Val) × Unit) : Option (Unit × Unit) :=
 bif a1.1 == (-1) then
  some ((), ())
 else
 bif a1.1 == (-2) then none else
 bif decide (a1.1 ≥ 0) then
  bif decide (a1.1 < (a0.2.2.1.length : Int)) then none else
  none
 else none
def world_whose_0 (x : Wrld × (Int × (Int × Int × Val) × Unit) × Unit) : Option (Unit × Unit) := world_whose_0_r x.1 x.2.1
def world_whose_0_sm : Sum := ⟨(.cons cWrld (.cons (.cons cI (.cons (.cons cI (.cons cI cVal)) .nil)) .nil)), (.cons (.ifc 189 [104]) .nil), world_whose_0⟩
def world_whose_0_c : Ctx := ⟨[], [], []⟩
theorem world_whose_0_sem : SemOf Tryz.prog 70 world_whose_0_sm := semC (c := world_whose_0_c) Tryz.func70 an an an 8
def world_whose_1_r (a0 : Wrld) (a1 : Int × (Int × Int × Val) × Unit) : Option (Unit × Unit) :=
 bif a1.1 == (-1) then none else
 bif a1.1 == (-2) then
  some ((), ())
 else
 bif decide (a1.1 ≥ 0) then
  bif decide (a1.1 < (a0.2.2.1.length : Int)) then none else
  none
 else none
def world_whose_1 (x : Wrld × (Int × (Int × Int × Val) × Unit) × Unit) : Option (Unit × Unit) := world_whose_1_r x.1 x.2.1
def world_whose_1_sm : Sum := ⟨(.cons cWrld (.cons (.cons cI (.cons (.cons cI (.cons cI cVal)) .nil)) .nil)), (.cons (.ifc 189 [105]) .nil), world_whose_1⟩
def world_whose_1_c : Ctx := ⟨[], [], []⟩
theorem world_whose_1_sem : SemOf Tryz.prog 70 world_whose_1_sm := semC (c := world_whose_1_c) Tryz.func70 an an an 8
def world_whose_2_r (a0 : Wrld) (a1 : Int × (Int × Int × Val) × Unit) : Option (Unit × Unit) :=
 bif a1.1 == (-1) then none else
 bif a1.1 == (-2) then none else
 bif decide (a1.1 ≥ 0) then
  bif decide (a1.1 < (a0.2.2.1.length : Int)) then
   some ((), ())
  else none
 else none
def world_whose_2 (x : Wrld × (Int × (Int × Int × Val) × Unit) × Unit) : Option (Unit × Unit) := world_whose_2_r x.1 x.2.1
def world_whose_2_sm : Sum := ⟨(.cons cWrld (.cons (.cons cI (.cons (.cons cI (.cons cI cVal)) .nil)) .nil)), (.cons (.ifc 191 []) .nil), world_whose_2⟩
def world_whose_2_c : Ctx := ⟨[], [], []⟩
theorem world_whose_2_sem : SemOf Tryz.prog 70 world_whose_2_sm := semC (c := world_whose_2_c) Tryz.func70 an an an 8
def world_whose_3_r (a0 : Wrld) (a1 : Int × (Int × Int × Val) × Unit) : Option (Unit × Unit) :=
 bif a1.1 == (-1) then none else
 bif a1.1 == (-2) then none else
 bif decide (a1.1 ≥ 0) then
  bif decide (a1.1 < (a0.2.2.1.length : Int)) then none else
  some ((), ())
 else
 some ((), ())
def world_whose_3 (x : Wrld × (Int × (Int × Int × Val) × Unit) × Unit) : Option (Unit × Unit) := world_whose_3_r x.1 x.2.1
def world_whose_3_sm : Sum := ⟨(.cons cWrld (.cons (.cons cI (.cons (.cons cI (.cons cI cVal)) .nil)) .nil)), (.cons (.ifc 192 []) .nil), world_whose_3⟩
def world_whose_3_c : Ctx := ⟨[], [], []⟩
theorem world_whose_3_sem : SemOf Tryz.prog 70 world_whose_3_sm := semC (c := world_whose_3_c) Tryz.func70 an an an 8
def world_Pick_0_r (a0 : Wrld) (a1 : Int × (Int × Int × Val) × Unit) : Option (Wrld × (Int × Int × Int × Val × Unit) × Unit) :=
 (world_whose_0 (a0, a1, ())).bind fun y1 =>
 (cycle_Marker (a0, ())).bind fun y2 =>
 some (y2.1, (a1.1, y2.2.1, 0, (0, 0, ()), ()), ())
def world_Pick_0 (x : Wrld × (Int × (Int × Int × Val) × Unit) × Unit) : Option (Wrld × (Int × Int × Int × Val × Unit) × Unit) := world_Pick_0_r x.1 x.2.1
def world_Pick_0_sm : Sum := ⟨(.cons cWrld (.cons (.cons cI (.cons (.cons cI (.cons cI cVal)) .nil)) .nil)), (.cons (.d cWrld) (.cons (.d (.cons cI (.cons cI (.cons cI (.cons cVal .nil))))) .nil)), world_Pick_0⟩
def world_Pick_0_c : Ctx := ⟨[(70, world_whose_0_sm), (104, cycle_Marker_sm)], [(263, Tryz.f263)], []⟩
theorem world_Pick_0_sem : SemOf Tryz.prog 53 world_Pick_0_sm := semC (c := world_Pick_0_c) Tryz.func53 (sc world_whose_0_sem (sc cycle_Marker_sem an)) (fc (flC Tryz.func263) an) an 8
def world_Pick_1_r (a0 : Wrld) (a1 : Int × (Int × Int × Val) × Unit) : Option (Wrld × (Int × Int × Int × Val × Unit) × Unit) :=
 (world_whose_1 (a0, a1, ())).bind fun y1 =>
 (cycle_Sweeper (a0, ())).bind fun y2 =>
 some (y2.1, (a1.1, y2.2.1, 0, (0, 0, ()), ()), ())
def world_Pick_1 (x : Wrld × (Int × (Int × Int × Val) × Unit) × Unit) : Option (Wrld × (Int × Int × Int × Val × Unit) × Unit) := world_Pick_1_r x.1 x.2.1
def world_Pick_1_sm : Sum := ⟨(.cons cWrld (.cons (.cons cI (.cons (.cons cI (.cons cI cVal)) .nil)) .nil)), (.cons (.d cWrld) (.cons (.d (.cons cI (.cons cI (.cons cI (.cons cVal .nil))))) .nil)), world_Pick_1⟩
def world_Pick_1_c : Ctx := ⟨[(70, world_whose_1_sm), (105, cycle_Sweeper_sm)], [(263, Tryz.f263)], []⟩
theorem world_Pick_1_sem : SemOf Tryz.prog 53 world_Pick_1_sm := semC (c := world_Pick_1_c) Tryz.func53 (sc world_whose_1_sem (sc cycle_Sweeper_sem an)) (fc (flC Tryz.func263) an) an 8
def world_Pick_2_r (a0 : Wrld) (a1 : Int × (Int × Int × Val) × Unit) : Option (Wrld × (Int × Int × Int × Val × Unit) × Unit) :=
 (world_whose_2 (a0, a1, ())).bind fun y1 =>
 (mut_Turn (a0, a1.1, a1.2.1, ())).bind fun y2 =>
 some ((y2.1.1, y2.1.2.1, y2.1.2.2.1, y2.1.2.2.2), (y2.2.1.1, y2.2.1.2.1, y2.2.1.2.2.1, y2.2.1.2.2.2.1, ()), ())
def world_Pick_2 (x : Wrld × (Int × (Int × Int × Val) × Unit) × Unit) : Option (Wrld × (Int × Int × Int × Val × Unit) × Unit) := world_Pick_2_r x.1 x.2.1
def world_Pick_2_sm : Sum := ⟨(.cons cWrld (.cons (.cons cI (.cons (.cons cI (.cons cI cVal)) .nil)) .nil)), (.cons (.d cWrld) (.cons (.d (.cons cI (.cons cI (.cons cI (.cons cVal .nil))))) .nil)), world_Pick_2⟩
def world_Pick_2_c : Ctx := ⟨[(70, world_whose_2_sm), (265, mut_Turn_sm)], [(264, Tryz.f264)], []⟩
theorem world_Pick_2_sem : SemOf Tryz.prog 53 world_Pick_2_sm := semC (c := world_Pick_2_c) Tryz.func53 (sc world_whose_2_sem (sc mut_Turn_sem an)) (fc (flC Tryz.func264) an) an 8
def world_Pick_3_r (a0 : Wrld) (a1 : Int × (Int × Int × Val) × Unit) : Option (Wrld × (Int × Int × Int × Val × Unit) × Unit) :=
 (world_whose_3 (a0, a1, ())).bind fun y1 =>
 some (a0, (a1.1, 0, 1, (0, 0, ()), ()), ())
def world_Pick_3 (x : Wrld × (Int × (Int × Int × Val) × Unit) × Unit) : Option (Wrld × (Int × Int × Int × Val × Unit) × Unit) := world_Pick_3_r x.1 x.2.1
def world_Pick_3_sm : Sum := ⟨(.cons cWrld (.cons (.cons cI (.cons (.cons cI (.cons cI cVal)) .nil)) .nil)), (.cons (.d cWrld) (.cons (.d (.cons cI (.cons cI (.cons cI (.cons cVal .nil))))) .nil)), world_Pick_3⟩
def world_Pick_3_c : Ctx := ⟨[(70, world_whose_3_sm)], [(318, Tryz.f318)], []⟩
theorem world_Pick_3_sem : SemOf Tryz.prog 53 world_Pick_3_sm := semC (c := world_Pick_3_c) Tryz.func53 (sc world_whose_3_sem an) (fc (flC Tryz.func318) an) an 8
def world_Pick (x : Wrld × (Int × (Int × Int × Val) × Unit) × Unit) : Option (Wrld × (Int × Int × Int × Val × Unit) × Unit) := orE (world_Pick_0 x) (orE (world_Pick_1 x) (orE (world_Pick_2 x) (world_Pick_3 x)))
def world_Pick_sm : Sum := ⟨(.cons cWrld (.cons (.cons cI (.cons (.cons cI (.cons cI cVal)) .nil)) .nil)), (.cons (.d cWrld) (.cons (.d (.cons cI (.cons cI (.cons cI (.cons cVal .nil))))) .nil)), world_Pick⟩
theorem world_Pick_sem : SemOf Tryz.prog 53 world_Pick_sm := semOr world_Pick_0_sem (semOr world_Pick_1_sem (semOr world_Pick_2_sem (world_Pick_3_sem)))
abbrev world_Run_h0 : U := (.cons (.sl (.cons cI (.cons (.cons cI (.cons cI cVal)) .nil))) (.cons cI (.cons cI (.cons cWrld (.cons cRep (.cons (.cons .bool .nil) (.cons cI (.cons .nil (.cons (.cons cI (.cons cI (.cons cI (.cons .bool .nil)))) (.cons cI (.cons .bool (.cons cI (.cons .nil (.cons cWrld (.cons (.sl (.cons cI (.cons cI (.cons cI (.cons cVal .nil))))) .nil)))))))))))))))
abbrev world_Run_o0 : U := (.cons cWrld (.cons cRep (.cons (.cons .bool .nil) (.cons cI (.cons .nil (.cons (.cons cI (.cons cI (.cons cI (.cons .bool .nil)))) (.cons cI (.cons .bool (.cons cI (.cons .nil (.cons (.sl (.cons cI (.cons cI (.cons cI (.cons cVal .nil))))) .nil)))))))))))
abbrev world_Run_e0 : U := .nil
def world_Run_s0r (v8 : List (Int × (Int × Int × Val) × Unit)) (v9 : Int) (v10 : Int) (c0 : Wrld) (c16_0 : Rep) (c16_1 : Bool × Unit) (c16_2 : Int) (c16_3 : Unit) (c16_4 : Int × Int × Int × Bool × Unit) (c16_5 : Int) (c16_6 : Bool) (c16_7 : Int) (c16_8 : Unit) (c112 : Wrld) (r240 : List (Int × Int × Int × Val × Unit)) : Option (SRes world_Run_h0 world_Run_o0 world_Run_e0) :=
 bif decide (v10 < v9) then
  bif decide (0 ≤ v10) then
   bif decide (v10 < (v8.length : Int)) then
    (world_Pick (c112, v8.getD v10.toNat (0, (0, 0, 0, 0, ()), ()), ())).bind fun y1 =>
    bif decide ((r240.length + 1) * 40 ≤ 140737488355328) then
     some (.next (v8, v9, wi64 (v10 + 1), y1.1, c16_0, c16_1, c16_2, c16_3, c16_4, c16_5, c16_6, c16_7, c16_8, y1.1, r240 ++ [y1.2.1], ()))
    else none
   else none
  else none
 else
 some (.fin (.out (c0, c16_0, c16_1, c16_2, c16_3, c16_4, c16_5, c16_6, c16_7, c16_8, r240, ())))
def world_Run_s0 (x : world_Run_h0.T) : Option (SRes world_Run_h0 world_Run_o0 world_Run_e0) := world_Run_s0r x.1 x.2.1 x.2.2.1 x.2.2.2.1 x.2.2.2.2.1 x.2.2.2.2.2.1 x.2.2.2.2.2.2.1 x.2.2.2.2.2.2.2.1 x.2.2.2.2.2.2.2.2.1 x.2.2.2.2.2.2.2.2.2.1 x.2.2.2.2.2.2.2.2.2.2.1 x.2.2.2.2.2.2.2.2.2.2.2.1 x.2.2.2.2.2.2.2.2.2.2.2.2.1 x.2.2.2.2.2.2.2.2.2.2.2.2.2.1 x.2.2.2.2.2.2.2.2.2.2.2.2.2.2.1
def world_Run_l0 (x : world_Run_h0.T) : Option (LRes world_Run_o0 world_Run_e0) := iterL world_Run_s0 9223372036854775808 x
def world_Run_r (a0 : Wrld) (a1 : List (Int × (Int × Int × Val) × Unit)) : Option (Wrld × (List (Int × Int × Int × Val × Unit)) × Unit) :=
 (world_Run_l0 (a1, (a1.length : Int), 0, a0, (0, 0, 0, 0, 0, ()), (false, ()), 0, (), (0, 0, 0, false, ()), 0, false, 0, (), a0, [], ())).bind fun s2 => match s2 with
 | .out s2 =>
  some (s2.1, s2.2.2.2.2.2.2.2.2.2.2.1, ())
 | .ret s2 =>
  none
def world_Run (x : Wrld × (List (Int × (Int × Int × Val) × Unit)) × Unit) : Option (Wrld × (List (Int × Int × Int × Val × Unit)) × Unit) := world_Run_r x.1 x.2.1
def world_Run_sm : Sum := ⟨(.cons cWrld (.cons (.sl (.cons cI (.cons (.cons cI (.cons cI cVal)) .nil))) .nil)), (.cons (.d cWrld) (.cons (.own (.cons cI (.cons cI (.cons cI (.cons cVal .nil))))) .nil)), world_Run⟩
def world_Run_L0 : LoopSum := { hc := ⟨[], [0, 2, 8, 9, 10], [(.key 48 [], (.cons cI (.cons cI (.cons cI (.cons cVal .nil)))))], [], [0, 16, 48, 112], [], 240⟩, h := ⟨[(0, (.fn 25 (.cons (.pvar 0 []) (.cons (.pvar 48 []) .nil)) .yld)), (2, (.pvar 112 [])), (8, (.d (.sl (.cons cI (.cons (.cons cI (.cons cI cVal)) .nil))))), (9, (.d cI)), (10, (.d cI))], [(0, (.d cWrld)), (16, (.cons (.d cRep) (.cons (.cons .nilsl (.cons .nilsl (.d (.cons .bool .nil)))) (.cons .nilsl (.cons (.cons (.cons (.d cI) (.cons .nilsl (.d .nil))) (.cons .nilsl (.cons .nilsl (.d (.cons cI (.cons cI (.cons cI (.cons .bool .nil)))))))) (.cons (.d cI) (.cons (.d .bool) (.cons (.d cI) (.cons .nilsl (.d .nil)))))))))), (48, (.row 240)), (112, (.d cWrld))], [(240, (.cons cI (.cons cI (.cons cI (.cons cVal .nil)))), true)], 241, false⟩, xid := 0, oc := ⟨[], [], [(.key 48 [], (.cons cI (.cons cI (.cons cI (.cons cVal .nil)))))], [], [0, 16, 48], [], 240⟩, o := ⟨[], [(0, (.d cWrld)), (16, (.cons (.d cRep) (.cons (.cons .nilsl (.cons .nilsl (.d (.cons .bool .nil)))) (.cons .nilsl (.cons (.cons (.cons (.d cI) (.cons .nilsl (.d .nil))) (.cons .nilsl (.cons .nilsl (.d (.cons cI (.cons cI (.cons cI (.cons .bool .nil)))))))) (.cons (.d cI) (.cons (.d .bool) (.cons (.d cI) (.cons .nilsl (.d .nil)))))))))), (48, (.row 240))], [(240, (.cons cI (.cons cI (.cons cI (.cons cVal .nil)))), true)], 241, false⟩, rc := ⟨[], [], [], [], [240], [], 240⟩, r := ⟨[], [], [], 240, false⟩, F := world_Run_l0 }
def world_Run_c : Ctx := ⟨[(53, world_Pick_sm)], [(25, Tryz.f25), (39, Tryz.f39), (52, Tryz.f52)], [⟨7, 52, 192, 0, world_Run_L0⟩]⟩
theorem world_Run_sem : SemOf Tryz.prog 25 world_Run_sm := semC (c := world_Run_c) Tryz.func25 (sc world_Pick_sem an) (fc (flC Tryz.func25 (hG := rng_some [2, 6] (by kernel_rfl) (by kernel_rfl))) (fc (flC Tryz.func39) (fc (flC Tryz.func52) an))) (ec (aeC [true, false, false] world_Run_s0 Tryz.func52) an) 8 (hG := rng_some [2, 6] (by kernel_rfl) (by kernel_rfl))
def play_Play_r (a0 : Rep) (a1 : List Int) : Option (Wrld × (List (Int × Int × Int × Val × Unit)) × Int × Unit) :=
 (world_New (a0, ())).bind fun y1 =>
 bif y1.2.1 != 0 then
  some (((0, 0, 0, 0, 0, ()), ([], [], false, ()), [], ((0, [], ()), [], [], 0, 0, 0, false, ()), 0, false, 0, [], ()), [], y1.2.1, ())
 else
 (play_Decode (a0.2.1, a1, ())).bind fun y2 =>
 (world_Run ((y1.1.1, (y1.1.2.1.1, y1.1.2.1.2.1, y1.1.2.1.2.2), y1.1.2.2.1, ((y1.1.2.2.2.1.1.1, y1.1.2.2.2.1.1.2.1, y1.1.2.2.2.1.1.2.2), y1.1.2.2.2.1.2.1, y1.1.2.2.2.1.2.2.1, y1.1.2.2.2.1.2.2.2), y1.1.2.2.2.2.1, y1.1.2.2.2.2.2.1, y1.1.2.2.2.2.2.2.1, y1.1.2.2.2.2.2.2.2.1, y1.1.2.2.2.2.2.2.2.2), y2.1, ())).bind fun y3 =>
 some (y3.1, y3.2.1, 0, ())
def play_Play (x : Rep × (List Int) × Unit) : Option (Wrld × (List (Int × Int × Int × Val × Unit)) × Int × Unit) := play_Play_r x.1 x.2.1
def play_Play_sm : Sum := ⟨(.cons cRep (.cons (.sl cI) .nil)), (.cons (.d cWrld) (.cons (.own (.cons cI (.cons cI (.cons cI (.cons cVal .nil))))) (.cons (.d cI) .nil))), play_Play⟩
def play_Play_c : Ctx := ⟨[(10, play_Decode_sm), (24, world_New_sm), (25, world_Run_sm)], [], []⟩
theorem play_Play_sem : SemOf Tryz.prog 12 play_Play_sm := semC (c := play_Play_c) Tryz.func12 (sc play_Decode_sem (sc world_New_sem (sc world_Run_sem an))) an an 8
def play_numbers_r (a0 : Int × (Int × Int × Val) × Unit) : Option ((List Int) × Unit) :=
 bif a0.1 == (-1) then
  some ([254, a0.2.1.1, a0.2.1.2.1, a0.2.1.2.2.1, a0.2.1.2.2.2.1], ())
 else
 bif a0.1 == (-2) then
  some ([255, a0.2.1.1, a0.2.1.2.1, a0.2.1.2.2.1, a0.2.1.2.2.2.1], ())
 else
 some ([a0.1, a0.2.1.1, a0.2.1.2.1, a0.2.1.2.2.1, a0.2.1.2.2.2.1], ())
def play_numbers (x : (Int × (Int × Int × Val) × Unit) × Unit) : Option ((List Int) × Unit) := play_numbers_r x.1
def play_numbers_sm : Sum := ⟨(.cons (.cons cI (.cons (.cons cI (.cons cI cVal)) .nil)) .nil), (.cons (.own cI) .nil), play_numbers⟩
def play_numbers_c : Ctx := ⟨[], [], []⟩
theorem play_numbers_sem : SemOf Tryz.prog 31 play_numbers_sm := semC (c := play_numbers_c) Tryz.func31 an an an 8
def play_fits_1_r (a0 : Int) : Option (Bool × Unit) :=
 bif decide (a0 < 0) then
  some (true, ())
 else
 some (decide (a0 > 255), ())
def play_fits_1 (x : Int × Unit) : Option (Bool × Unit) := play_fits_1_r x.1
def play_fits_1_sm : Sum := ⟨(.cons cI .nil), (.cons (.d .bool) .nil), play_fits_1⟩
def play_fits_1_c : Ctx := ⟨[], [], []⟩
theorem play_fits_1_sem : SemOf Tryz.prog 48 play_fits_1_sm := semC (c := play_fits_1_c) Tryz.func48 an an an 8
abbrev play_fits_h0 : U := (.cons cI cGrey)
abbrev play_fits_o0 : U := .nil
abbrev play_fits_e0 : U := (.cons cI .nil)
def play_fits_s0r (v7 : Int) (v8 : Int) (r176 : List Int) : Option (SRes play_fits_h0 play_fits_o0 play_fits_e0) :=
 bif decide (v8 < v7) then
  bif decide (0 ≤ v8) then
   bif decide (v8 < (r176.length : Int)) then
    (play_fits_1 (r176.getD v8.toNat 0, ())).bind fun y2 =>
    bif y2.1 then
     some (.fin (.ret (v8, ())))
    else
    some (.next (v7, wi64 (v8 + 1), r176, ()))
   else none
  else none
 else
 some (.fin (.out ()))
def play_fits_s0 (x : play_fits_h0.T) : Option (SRes play_fits_h0 play_fits_o0 play_fits_e0) := play_fits_s0r x.1 x.2.1 x.2.2.1
def play_fits_l0 (x : play_fits_h0.T) : Option (LRes play_fits_o0 play_fits_e0) := iterL play_fits_s0 9223372036854775808 x
def play_fits_r (a0 : Int × (Int × Int × Val) × Unit) : Option (Bool × Unit) :=
 bif a0.1 == (-1) then
  some ((a0.2.1.1 == 0) && ((a0.2.1.2.1 == 0) && ((a0.2.1.2.2.1 == 0) && ((a0.2.1.2.2.2.1 == 0) && true))), ())
 else
 bif a0.1 == (-2) then
  some ((a0.2.1.1 == 0) && ((a0.2.1.2.1 == 0) && ((a0.2.1.2.2.1 == 0) && ((a0.2.1.2.2.2.1 == 0) && true))), ())
 else
 (play_numbers (a0, ())).bind fun y1 =>
 bif decide (0 < (y1.1.length : Int)) then
  bif decide ((y1.1.getD 0 0) ≥ 0) then
   bif decide (0 < (y1.1.length : Int)) then
    bif decide ((y1.1.getD 0 0) < 8) then
     (play_fits_l0 ((y1.1.length : Int), 0, y1.1, ())).bind fun s3 => match s3 with
     | .out s3 =>
      some (true, ())
     | .ret s3 =>
      some (!(decide (s3.1 ≥ 0)), ())
    else
    some (false, ())
   else none
  else
  some (false, ())
 else none
def play_fits (x : (Int × (Int × Int × Val) × Unit) × Unit) : Option (Bool × Unit) := play_fits_r x.1
def play_fits_sm : Sum := ⟨(.cons (.cons cI (.cons (.cons cI (.cons cI cVal)) .nil)) .nil), (.cons (.d .bool) .nil), play_fits⟩
def play_fits_L0 : LoopSum := { hc := ⟨[], [0, 1, 7, 8], [], [], [], [176], 624⟩, h := ⟨[(0, (.row 176)), (1, (.fn 48 .nil .nil)), (7, (.d cI)), (8, (.d cI))], [], [(176, cI, true)], 624, false⟩, xid := 0, oc := ⟨[], [], [], [], [], [], 624⟩, o := ⟨[], [], [], 624, false⟩, rc := ⟨[], [4], [], [], [], [], 624⟩, r := ⟨[(4, (.d cI))], [], [], 624, false⟩, F := play_fits_l0 }
def play_fits_c : Ctx := ⟨[(31, play_numbers_sm), (48, play_fits_1_sm)], [(47, Tryz.f47), (69, Tryz.f69)], [⟨6, 69, 560, 0, play_fits_L0⟩]⟩
theorem play_fits_sem : SemOf Tryz.prog 30 play_fits_sm := semC (c := play_fits_c) Tryz.func30 (sc play_numbers_sem (sc play_fits_1_sem an)) (fc (flC Tryz.func47) (fc (flC Tryz.func69) an)) (ec (aeC [true, false, true, false, false] play_fits_s0 Tryz.func69) an) 8
abbrev play_Put_h0 : U := (.cons (.sl (.cons cI (.cons (.cons cI (.cons cI cVal)) .nil))) (.cons cI (.cons cI (.cons cI (.cons cI (.cons (.sl cI) (.cons (.sl (.int .u8)) .nil)))))))
abbrev play_Put_o0 : U := (.cons (.sl (.cons cI (.cons (.cons cI (.cons cI cVal)) .nil))) (.cons cI (.cons cI (.cons (.sl (.int .u8)) .nil))))
abbrev play_Put_e0 : U := .nil
def play_Put_s0r (v9 : List (Int × (Int × Int × Val) × Unit)) (v10 : Int) (v11 : Int) (v20 : Int) (v21 : Int) (r241 : List Int) (r289 : List Int) : Option (SRes play_Put_h0 play_Put_o0 play_Put_e0) :=
 bif decide (v21 < v20) then
  bif decide (0 ≤ v21) then
   bif decide (v21 < (r241.length : Int)) then
    bif decide ((r289.length + 1) * 1 ≤ 140737488355328) then
     some (.next (v9, v10, v11, v20, wi64 (v21 + 1), r241, r289 ++ [wu8 (r241.getD v21.toNat 0)], ()))
    else none
   else none
  else none
 else
 some (.fin (.out (v9, v10, v11, r289, ())))
def play_Put_s0 (x : play_Put_h0.T) : Option (SRes play_Put_h0 play_Put_o0 play_Put_e0) := play_Put_s0r x.1 x.2.1 x.2.2.1 x.2.2.2.1 x.2.2.2.2.1 x.2.2.2.2.2.1 x.2.2.2.2.2.2.1
def play_Put_l0 (x : play_Put_h0.T) : Option (LRes play_Put_o0 play_Put_e0) := iterL play_Put_s0 9223372036854775808 x
abbrev play_Put_h1 : U := (.cons (.sl (.cons cI (.cons (.cons cI (.cons cI cVal)) .nil))) (.cons cI (.cons cI (.cons (.sl (.int .u8)) .nil))))
abbrev play_Put_o1 : U := (.cons (.sl (.int .u8)) .nil)
abbrev play_Put_e1 : U := (.cons cI .nil)
def play_Put_s1r (v9 : List (Int × (Int × Int × Val) × Unit)) (v10 : Int) (v11 : Int) (r96 : List Int) : Option (SRes play_Put_h1 play_Put_o1 play_Put_e1) :=
 bif decide (v11 < v10) then
  bif decide (0 ≤ v11) then
   bif decide (v11 < (v9.length : Int)) then
    (play_fits (v9.getD v11.toNat (0, (0, 0, 0, 0, ()), ()), ())).bind fun y1 =>
    bif !y1.1 then
     some (.fin (.ret (8, ())))
    else
    (play_numbers (v9.getD v11.toNat (0, (0, 0, 0, 0, ()), ()), ())).bind fun y2 =>
    (play_Put_l0 (v9, v10, v11, (y2.1.length : Int), 0, y2.1, r96, ())).bind fun s3 => match s3 with
    | .out s3 =>
     some (.next (s3.1, s3.2.1, wi64 (s3.2.2.1 + 1), s3.2.2.2.1, ()))
    | .ret s3 =>
     none
   else none
  else none
 else
 some (.fin (.out (r96, ())))
def play_Put_s1 (x : play_Put_h1.T) : Option (SRes play_Put_h1 play_Put_o1 play_Put_e1) := play_Put_s1r x.1 x.2.1 x.2.2.1 x.2.2.2.1
def play_Put_l1 (x : play_Put_h1.T) : Option (LRes play_Put_o1 play_Put_e1) := iterL play_Put_s1 9223372036854775808 x
def play_Put_r (a0 : List (Int × (Int × Int × Val) × Unit)) : Option ((List Int) × Int × Unit) :=
 (play_Put_l1 (a0, (a0.length : Int), 0, [], ())).bind fun s4 => match s4 with
 | .out s4 =>
  some (s4.1, 0, ())
 | .ret s4 =>
  some ([], s4.1, ())
def play_Put (x : (List (Int × (Int × Int × Val) × Unit)) × Unit) : Option ((List Int) × Int × Unit) := play_Put_r x.1
def play_Put_sm : Sum := ⟨(.cons (.sl (.cons cI (.cons (.cons cI (.cons cI cVal)) .nil))) .nil), (.cons (.own (.int .u8)) (.cons (.d cI) .nil)), play_Put⟩
def play_Put_L0 : LoopSum := { hc := ⟨[], [4, 9, 10, 11, 19, 20, 21], [(.tmp 4, (.int .u8))], [], [], [241], 289⟩, h := ⟨[(4, (.row 289)), (9, (.d (.sl (.cons cI (.cons (.cons cI (.cons cI cVal)) .nil))))), (10, (.d cI)), (11, (.d cI)), (19, (.row 241)), (20, (.d cI)), (21, (.d cI))], [], [(241, cI, true), (289, (.int .u8), true)], 290, false⟩, xid := 2, oc := ⟨[], [4, 9, 10, 11], [(.tmp 4, (.int .u8))], [], [], [], 289⟩, o := ⟨[(4, (.row 289)), (9, (.d (.sl (.cons cI (.cons (.cons cI (.cons cI cVal)) .nil))))), (10, (.d cI)), (11, (.d cI))], [], [(289, (.int .u8), true)], 290, false⟩, rc := ⟨[], [], [], [], [289], [], 289⟩, r := ⟨[], [], [], 289, false⟩, F := play_Put_l0 }
def play_Put_L1 : LoopSum := { hc := ⟨[], [4, 9, 10, 11], [(.tmp 4, (.int .u8))], [], [], [], 96⟩, h := ⟨[(4, (.row 96)), (9, (.d (.sl (.cons cI (.cons (.cons cI (.cons cI cVal)) .nil))))), (10, (.d cI)), (11, (.d cI))], [], [(96, (.int .u8), true)], 97, false⟩, xid := 0, oc := ⟨[], [4], [(.tmp 4, (.int .u8))], [], [], [], 96⟩, o := ⟨[(4, (.row 96))], [], [(96, (.int .u8), true)], 97, false⟩, rc := ⟨[], [2, 3], [], [], [], [], 96⟩, r := ⟨[(2, .nilsl), (3, (.d cI))], [], [], 96, false⟩, F := play_Put_l1 }
def play_Put_c : Ctx := ⟨[(30, play_fits_sm), (31, play_numbers_sm)], [], [⟨8, 17, 0, 2, play_Put_L0⟩, ⟨8, 17, 0, 0, play_Put_L1⟩]⟩
theorem play_Put_sem : SemOf Tryz.prog 17 play_Put_sm := semC (c := play_Put_c) Tryz.func17 (sc play_fits_sem (sc play_numbers_sem an)) an (ec (aeC [true, true, false, true, false, false, true, true, false, false, true, true, true, false, false] play_Put_s0 Tryz.func17) (ec (aeC [true, true, false, true, false, false] play_Put_s1 Tryz.func17) an)) 8
abbrev play_Get_h0 : U := (.cons cI (.cons cI (.cons (.sl (.int .u8)) (.cons cI (.cons (.sl (.cons cI (.cons (.cons cI (.cons cI cVal)) .nil))) .nil)))))
abbrev play_Get_o0 : U := (.cons cI (.cons (.sl (.cons cI (.cons (.cons cI (.cons cI cVal)) .nil))) .nil))
abbrev play_Get_e0 : U := (.cons cI (.cons (.sl (.cons cI (.cons (.cons cI (.cons cI cVal)) .nil))) .nil))
def play_Get_s0r (v4 : Int) (c16 : Int) (c144 : List Int) (c160 : Int) (r272 : List (Int × (Int × Int × Val) × Unit)) : Option (SRes play_Get_h0 play_Get_o0 play_Get_e0) :=
 bif decide (v4 < (c144.length : Int)) then
  bif decide (0 ≤ v4) then
   bif decide (v4 ≤ (c144.length : Int)) then
    bif decide ((c144.length : Int) ≤ (c144.length : Int)) then
     bif (wi64 (v4 + (bif decide ((((c144.drop v4.toNat).take ((c144.length : Int).toNat - v4.toNat)).length : Int) < c160) then (((c144.drop v4.toNat).take ((c144.length : Int).toNat - v4.toNat)).length : Int) else c160))) == (wi64 (v4 + (bif decide ((((c144.drop v4.toNat).take ((c144.length : Int).toNat - v4.toNat)).length : Int) < c160) then (((c144.drop v4.toNat).take ((c144.length : Int).toNat - v4.toNat)).length : Int) else c160))) then
      bif decide (0 ≤ v4) then
       bif decide (v4 ≤ (wi64 (v4 + (bif decide ((((c144.drop v4.toNat).take ((c144.length : Int).toNat - v4.toNat)).length : Int) < c160) then (((c144.drop v4.toNat).take ((c144.length : Int).toNat - v4.toNat)).length : Int) else c160)))) then
        bif decide ((wi64 (v4 + (bif decide ((((c144.drop v4.toNat).take ((c144.length : Int).toNat - v4.toNat)).length : Int) < c160) then (((c144.drop v4.toNat).take ((c144.length : Int).toNat - v4.toNat)).length : Int) else c160))) ≤ (c144.length : Int)) then
         bif decide (0 < (((c144.drop v4.toNat).take ((wi64 (v4 + (bif decide ((((c144.drop v4.toNat).take ((c144.length : Int).toNat - v4.toNat)).length : Int) < c160) then (((c144.drop v4.toNat).take ((c144.length : Int).toNat - v4.toNat)).length : Int) else c160))).toNat - v4.toNat)).length : Int)) then
          bif decide (1 < (((c144.drop v4.toNat).take ((wi64 (v4 + (bif decide ((((c144.drop v4.toNat).take ((c144.length : Int).toNat - v4.toNat)).length : Int) < c160) then (((c144.drop v4.toNat).take ((c144.length : Int).toNat - v4.toNat)).length : Int) else c160))).toNat - v4.toNat)).length : Int)) then
           bif decide (2 < (((c144.drop v4.toNat).take ((wi64 (v4 + (bif decide ((((c144.drop v4.toNat).take ((c144.length : Int).toNat - v4.toNat)).length : Int) < c160) then (((c144.drop v4.toNat).take ((c144.length : Int).toNat - v4.toNat)).length : Int) else c160))).toNat - v4.toNat)).length : Int)) then
            bif decide (3 < (((c144.drop v4.toNat).take ((wi64 (v4 + (bif decide ((((c144.drop v4.toNat).take ((c144.length : Int).toNat - v4.toNat)).length : Int) < c160) then (((c144.drop v4.toNat).take ((c144.length : Int).toNat - v4.toNat)).length : Int) else c160))).toNat - v4.toNat)).length : Int)) then
             bif decide (4 < (((c144.drop v4.toNat).take ((wi64 (v4 + (bif decide ((((c144.drop v4.toNat).take ((c144.length : Int).toNat - v4.toNat)).length : Int) < c160) then (((c144.drop v4.toNat).take ((c144.length : Int).toNat - v4.toNat)).length : Int) else c160))).toNat - v4.toNat)).length : Int)) then
              bif (wi64 (((c144.drop v4.toNat).take ((wi64 (v4 + (bif decide ((((c144.drop v4.toNat).take ((c144.length : Int).toNat - v4.toNat)).length : Int) < c160) then (((c144.drop v4.toNat).take ((c144.length : Int).toNat - v4.toNat)).length : Int) else c160))).toNat - v4.toNat)).getD 0 0)) == 254 then
               (play_fits (((-1), (wi64 (((c144.drop v4.toNat).take ((wi64 (v4 + (bif decide ((((c144.drop v4.toNat).take ((c144.length : Int).toNat - v4.toNat)).length : Int) < c160) then (((c144.drop v4.toNat).take ((c144.length : Int).toNat - v4.toNat)).length : Int) else c160))).toNat - v4.toNat)).getD 1 0), wi64 (((c144.drop v4.toNat).take ((wi64 (v4 + (bif decide ((((c144.drop v4.toNat).take ((c144.length : Int).toNat - v4.toNat)).length : Int) < c160) then (((c144.drop v4.toNat).take ((c144.length : Int).toNat - v4.toNat)).length : Int) else c160))).toNat - v4.toNat)).getD 2 0), wi64 (((c144.drop v4.toNat).take ((wi64 (v4 + (bif decide ((((c144.drop v4.toNat).take ((c144.length : Int).toNat - v4.toNat)).length : Int) < c160) then (((c144.drop v4.toNat).take ((c144.length : Int).toNat - v4.toNat)).length : Int) else c160))).toNat - v4.toNat)).getD 3 0), wi64 (((c144.drop v4.toNat).take ((wi64 (v4 + (bif decide ((((c144.drop v4.toNat).take ((c144.length : Int).toNat - v4.toNat)).length : Int) < c160) then (((c144.drop v4.toNat).take ((c144.length : Int).toNat - v4.toNat)).length : Int) else c160))).toNat - v4.toNat)).getD 4 0), ()), ()), ())).bind fun y1 =>
               bif !y1.1 then
                some (.fin (.ret (8, r272, ())))
               else
               bif decide ((r272.length + 1) * 40 ≤ 140737488355328) then
                some (.next (wi64 (v4 + c160), c16, c144, c160, r272 ++ [((-1), (wi64 (((c144.drop v4.toNat).take ((wi64 (v4 + (bif decide ((((c144.drop v4.toNat).take ((c144.length : Int).toNat - v4.toNat)).length : Int) < c160) then (((c144.drop v4.toNat).take ((c144.length : Int).toNat - v4.toNat)).length : Int) else c160))).toNat - v4.toNat)).getD 1 0), wi64 (((c144.drop v4.toNat).take ((wi64 (v4 + (bif decide ((((c144.drop v4.toNat).take ((c144.length : Int).toNat - v4.toNat)).length : Int) < c160) then (((c144.drop v4.toNat).take ((c144.length : Int).toNat - v4.toNat)).length : Int) else c160))).toNat - v4.toNat)).getD 2 0), wi64 (((c144.drop v4.toNat).take ((wi64 (v4 + (bif decide ((((c144.drop v4.toNat).take ((c144.length : Int).toNat - v4.toNat)).length : Int) < c160) then (((c144.drop v4.toNat).take ((c144.length : Int).toNat - v4.toNat)).length : Int) else c160))).toNat - v4.toNat)).getD 3 0), wi64 (((c144.drop v4.toNat).take ((wi64 (v4 + (bif decide ((((c144.drop v4.toNat).take ((c144.length : Int).toNat - v4.toNat)).length : Int) < c160) then (((c144.drop v4.toNat).take ((c144.length : Int).toNat - v4.toNat)).length : Int) else c160))).toNat - v4.toNat)).getD 4 0), ()), ())], ()))
               else none
              else
              bif (wi64 (((c144.drop v4.toNat).take ((wi64 (v4 + (bif decide ((((c144.drop v4.toNat).take ((c144.length : Int).toNat - v4.toNat)).length : Int) < c160) then (((c144.drop v4.toNat).take ((c144.length : Int).toNat - v4.toNat)).length : Int) else c160))).toNat - v4.toNat)).getD 0 0)) == 255 then
               (play_fits (((-2), (wi64 (((c144.drop v4.toNat).take ((wi64 (v4 + (bif decide ((((c144.drop v4.toNat).take ((c144.length : Int).toNat - v4.toNat)).length : Int) < c160) then (((c144.drop v4.toNat).take ((c144.length : Int).toNat - v4.toNat)).length : Int) else c160))).toNat - v4.toNat)).getD 1 0), wi64 (((c144.drop v4.toNat).take ((wi64 (v4 + (bif decide ((((c144.drop v4.toNat).take ((c144.length : Int).toNat - v4.toNat)).length : Int) < c160) then (((c144.drop v4.toNat).take ((c144.length : Int).toNat - v4.toNat)).length : Int) else c160))).toNat - v4.toNat)).getD 2 0), wi64 (((c144.drop v4.toNat).take ((wi64 (v4 + (bif decide ((((c144.drop v4.toNat).take ((c144.length : Int).toNat - v4.toNat)).length : Int) < c160) then (((c144.drop v4.toNat).take ((c144.length : Int).toNat - v4.toNat)).length : Int) else c160))).toNat - v4.toNat)).getD 3 0), wi64 (((c144.drop v4.toNat).take ((wi64 (v4 + (bif decide ((((c144.drop v4.toNat).take ((c144.length : Int).toNat - v4.toNat)).length : Int) < c160) then (((c144.drop v4.toNat).take ((c144.length : Int).toNat - v4.toNat)).length : Int) else c160))).toNat - v4.toNat)).getD 4 0), ()), ()), ())).bind fun y2 =>
               bif !y2.1 then
                some (.fin (.ret (8, r272, ())))
               else
               bif decide ((r272.length + 1) * 40 ≤ 140737488355328) then
                some (.next (wi64 (v4 + c160), c16, c144, c160, r272 ++ [((-2), (wi64 (((c144.drop v4.toNat).take ((wi64 (v4 + (bif decide ((((c144.drop v4.toNat).take ((c144.length : Int).toNat - v4.toNat)).length : Int) < c160) then (((c144.drop v4.toNat).take ((c144.length : Int).toNat - v4.toNat)).length : Int) else c160))).toNat - v4.toNat)).getD 1 0), wi64 (((c144.drop v4.toNat).take ((wi64 (v4 + (bif decide ((((c144.drop v4.toNat).take ((c144.length : Int).toNat - v4.toNat)).length : Int) < c160) then (((c144.drop v4.toNat).take ((c144.length : Int).toNat - v4.toNat)).length : Int) else c160))).toNat - v4.toNat)).getD 2 0), wi64 (((c144.drop v4.toNat).take ((wi64 (v4 + (bif decide ((((c144.drop v4.toNat).take ((c144.length : Int).toNat - v4.toNat)).length : Int) < c160) then (((c144.drop v4.toNat).take ((c144.length : Int).toNat - v4.toNat)).length : Int) else c160))).toNat - v4.toNat)).getD 3 0), wi64 (((c144.drop v4.toNat).take ((wi64 (v4 + (bif decide ((((c144.drop v4.toNat).take ((c144.length : Int).toNat - v4.toNat)).length : Int) < c160) then (((c144.drop v4.toNat).take ((c144.length : Int).toNat - v4.toNat)).length : Int) else c160))).toNat - v4.toNat)).getD 4 0), ()), ())], ()))
               else none
              else
              (play_fits ((wi64 (((c144.drop v4.toNat).take ((wi64 (v4 + (bif decide ((((c144.drop v4.toNat).take ((c144.length : Int).toNat - v4.toNat)).length : Int) < c160) then (((c144.drop v4.toNat).take ((c144.length : Int).toNat - v4.toNat)).length : Int) else c160))).toNat - v4.toNat)).getD 0 0), (wi64 (((c144.drop v4.toNat).take ((wi64 (v4 + (bif decide ((((c144.drop v4.toNat).take ((c144.length : Int).toNat - v4.toNat)).length : Int) < c160) then (((c144.drop v4.toNat).take ((c144.length : Int).toNat - v4.toNat)).length : Int) else c160))).toNat - v4.toNat)).getD 1 0), wi64 (((c144.drop v4.toNat).take ((wi64 (v4 + (bif decide ((((c144.drop v4.toNat).take ((c144.length : Int).toNat - v4.toNat)).length : Int) < c160) then (((c144.drop v4.toNat).take ((c144.length : Int).toNat - v4.toNat)).length : Int) else c160))).toNat - v4.toNat)).getD 2 0), wi64 (((c144.drop v4.toNat).take ((wi64 (v4 + (bif decide ((((c144.drop v4.toNat).take ((c144.length : Int).toNat - v4.toNat)).length : Int) < c160) then (((c144.drop v4.toNat).take ((c144.length : Int).toNat - v4.toNat)).length : Int) else c160))).toNat - v4.toNat)).getD 3 0), wi64 (((c144.drop v4.toNat).take ((wi64 (v4 + (bif decide ((((c144.drop v4.toNat).take ((c144.length : Int).toNat - v4.toNat)).length : Int) < c160) then (((c144.drop v4.toNat).take ((c144.length : Int).toNat - v4.toNat)).length : Int) else c160))).toNat - v4.toNat)).getD 4 0), ()), ()), ())).bind fun y3 =>
              bif !y3.1 then
               some (.fin (.ret (8, r272, ())))
              else
              bif decide ((r272.length + 1) * 40 ≤ 140737488355328) then
               some (.next (wi64 (v4 + c160), c16, c144, c160, r272 ++ [(wi64 (((c144.drop v4.toNat).take ((wi64 (v4 + (bif decide ((((c144.drop v4.toNat).take ((c144.length : Int).toNat - v4.toNat)).length : Int) < c160) then (((c144.drop v4.toNat).take ((c144.length : Int).toNat - v4.toNat)).length : Int) else c160))).toNat - v4.toNat)).getD 0 0), (wi64 (((c144.drop v4.toNat).take ((wi64 (v4 + (bif decide ((((c144.drop v4.toNat).take ((c144.length : Int).toNat - v4.toNat)).length : Int) < c160) then (((c144.drop v4.toNat).take ((c144.length : Int).toNat - v4.toNat)).length : Int) else c160))).toNat - v4.toNat)).getD 1 0), wi64 (((c144.drop v4.toNat).take ((wi64 (v4 + (bif decide ((((c144.drop v4.toNat).take ((c144.length : Int).toNat - v4.toNat)).length : Int) < c160) then (((c144.drop v4.toNat).take ((c144.length : Int).toNat - v4.toNat)).length : Int) else c160))).toNat - v4.toNat)).getD 2 0), wi64 (((c144.drop v4.toNat).take ((wi64 (v4 + (bif decide ((((c144.drop v4.toNat).take ((c144.length : Int).toNat - v4.toNat)).length : Int) < c160) then (((c144.drop v4.toNat).take ((c144.length : Int).toNat - v4.toNat)).length : Int) else c160))).toNat - v4.toNat)).getD 3 0), wi64 (((c144.drop v4.toNat).take ((wi64 (v4 + (bif decide ((((c144.drop v4.toNat).take ((c144.length : Int).toNat - v4.toNat)).length : Int) < c160) then (((c144.drop v4.toNat).take ((c144.length : Int).toNat - v4.toNat)).length : Int) else c160))).toNat - v4.toNat)).getD 4 0), ()), ())], ()))
              else none
             else none
            else none
           else none
          else none
         else none
        else none
       else none
      else none
     else none
    else none
   else none
  else none
 else
 some (.fin (.out (c16, r272, ())))
def play_Get_s0 (x : play_Get_h0.T) : Option (SRes play_Get_h0 play_Get_o0 play_Get_e0) := play_Get_s0r x.1 x.2.1 x.2.2.1 x.2.2.2.1 x.2.2.2.2.1
def play_Get_l0 (x : play_Get_h0.T) : Option (LRes play_Get_o0 play_Get_e0) := iterL play_Get_s0 9223372036854775808 x
def play_Get_r (a0 : List Int) : Option ((List (Int × (Int × Int × Val) × Unit)) × Int × Unit) :=
 bif ((a0.length : Int).tmod 5) != 0 then
  some ([], 8, ())
 else
 (play_Get_l0 (0, 0, a0, 5, [], ())).bind fun s4 => match s4 with
 | .out s4 =>
  some (s4.2.1, 0, ())
 | .ret s4 =>
  some ([], s4.1, ())
def play_Get (x : (List Int) × Unit) : Option ((List (Int × (Int × Int × Val) × Unit)) × Int × Unit) := play_Get_r x.1
def play_Get_sm : Sum := ⟨(.cons (.sl (.int .u8)) .nil), (.cons (.own (.cons cI (.cons (.cons cI (.cons cI cVal)) .nil))) (.cons (.d cI) .nil)), play_Get⟩
def play_Get_L0 : LoopSum := { hc := ⟨[], [0, 1, 2, 4], [(.key 96 [], (.cons cI (.cons (.cons cI (.cons cI cVal)) .nil)))], [], [0, 16, 96, 144, 160], [], 272⟩, h := ⟨[(0, (.fn 19 (.cons (.pvar 0 []) (.cons (.pvar 16 []) (.cons (.pvar 96 []) .nil))) .yld)), (1, (.pvar 144 [])), (2, (.pvar 160 [])), (4, (.d cI))], [(0, .nilsl), (16, (.d cI)), (96, (.row 272)), (144, (.d (.sl (.int .u8)))), (160, (.d cI))], [(272, (.cons cI (.cons (.cons cI (.cons cI cVal)) .nil)), true)], 273, false⟩, xid := 0, oc := ⟨[], [], [(.key 96 [], (.cons cI (.cons (.cons cI (.cons cI cVal)) .nil)))], [], [0, 16, 96], [], 272⟩, o := ⟨[], [(0, .nilsl), (16, (.d cI)), (96, (.row 272))], [(272, (.cons cI (.cons (.cons cI (.cons cI cVal)) .nil)), true)], 273, false⟩, rc := ⟨[], [], [(.key 96 [], (.cons cI (.cons (.cons cI (.cons cI cVal)) .nil)))], [], [0, 16, 96], [], 272⟩, r := ⟨[], [(0, .nilsl), (16, (.d cI)), (96, (.row 272))], [(272, (.cons cI (.cons (.cons cI (.cons cI cVal)) .nil)), true)], 273, true⟩, F := play_Get_l0 }
def play_Get_c : Ctx := ⟨[(30, play_fits_sm)], [(19, Tryz.f19), (33, Tryz.f33), (49, Tryz.f49)], [⟨7, 49, 256, 0, play_Get_L0⟩]⟩
theorem play_Get_sem : SemOf Tryz.prog 19 play_Get_sm := semC (c := play_Get_c) Tryz.func19 (sc play_fits_sem an) (fc (flC Tryz.func19 (hG := rng_some [2, 3, 4] (by kernel_rfl) (by kernel_rfl))) (fc (flC Tryz.func33) (fc (flC Tryz.func49) an))) (ec (aeC [true, false, false] play_Get_s0 Tryz.func49) an) 8 (hG := rng_some [2, 3, 4] (by kernel_rfl) (by kernel_rfl))
end
end Go.Proofs.YtpabbpncacnnfaaGreatDoor.Den
