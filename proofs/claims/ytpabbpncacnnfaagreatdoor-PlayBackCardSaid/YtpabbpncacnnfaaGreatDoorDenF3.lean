/- What functions come to. Printed by a program of this session. -/
import Derived.Test.YtpabbpncacnnfaaGreatDoorDenF2
namespace Go.Proofs.YtpabbpncacnnfaaGreatDoor.Den
open Go
set_option maxRecDepth 100000
set_option linter.unusedVariables false
noncomputable section
def w26_awake_r  : Option (Bool × Unit) :=
 (play_Decode (2, [2, 1, 1, 1, 1, (-7), 4, 9], ())).bind fun y1 =>
 (play_Play ((1, 1, 2, 1, 1, ()), [0, 6, 0, 0, 0, 1], ())).bind fun y2 =>
 (play_Play ((0, 0, 0, 0, 0, ()), [], ())).bind fun y3 =>
 (play_Put (y1.1, ())).bind fun y4 =>
 (play_Get (y4.1, ())).bind fun y5 =>
 (play_Get ([9, 0, 0, 0, 0], ())).bind fun y6 =>
 (play_Put ([(8, (0, 0, 0, 0, ()), ())], ())).bind fun y7 =>
 (r26_Same (y1.1, [((-1), (0, 0, 0, 0, ()), ()), (1, (4, 9, 0, 0, ()), ())], ())).bind fun y8 =>
 bif y8.1 then
  bif y2.2.2.1 == 0 then
   bif (y2.2.1.length : Int) == 2 then
    bif y2.1.2.2.2.2.1 == 1 then
     bif y3.2.2.1 == 1 then
      bif y4.2.1 == 0 then
       bif (y4.1.length : Int) == 10 then
        bif decide (0 < (y4.1.length : Int)) then
         bif (y4.1.getD 0 0) == 254 then
          (r26_Same (y1.1, y5.1, ())).bind fun y9 =>
          bif y9.1 then
           bif y5.2.1 == 0 then
            bif y6.2.1 == 8 then
             some (y7.2.1 == 8, ())
            else
            some (false, ())
           else
           some (false, ())
          else
          some (false, ())
         else
         some (false, ())
        else none
       else
       some (false, ())
      else
      some (false, ())
     else
     some (false, ())
    else
    some (false, ())
   else
   some (false, ())
  else
  some (false, ())
 else
 some (false, ())
def w26_awake (x : Unit) : Option (Bool × Unit) := w26_awake_r 
def w26_awake_sm : Sum := ⟨.nil, (.cons (.d .bool) .nil), w26_awake⟩
def w26_awake_c : Ctx := ⟨[(9, r26_Same_sm), (10, play_Decode_sm), (12, play_Play_sm), (17, play_Put_sm), (19, play_Get_sm)], [], []⟩
theorem w26_awake_sem : SemOf Tryz.prog 8 w26_awake_sm := semC (c := w26_awake_c) Tryz.func8 (sc r26_Same_sem (sc play_Decode_sem (sc play_Play_sem (sc play_Put_sem (sc play_Get_sem an))))) an an 8
def r26_rest_r (a0 : Int) (a1 : Int) : Option (Int × Unit) :=
 bif a1 == 0 then none else
 bif decide ((a0.tmod a1) < 0) then
  some (wi64 ((a0.tmod a1) + a1), ())
 else
 some (a0.tmod a1, ())
def r26_rest (x : Val) : Option (Int × Unit) := r26_rest_r x.1 x.2.1
def r26_rest_sm : Sum := ⟨cVal, (.cons (.d cI) .nil), r26_rest⟩
def r26_rest_c : Ctx := ⟨[], [], []⟩
theorem r26_rest_sem : SemOf Tryz.prog 23 r26_rest_sm := semC (c := r26_rest_c) Tryz.func23 an an an 8
abbrev r26_Decode_h0 : U := (.cons cI (.cons (.sl cI) (.cons cI (.cons cI (.cons (.arr 5 cI) (.cons (.sl (.cons cI (.cons (.cons cI (.cons cI cVal)) .nil))) .nil))))))
abbrev r26_Decode_o0 : U := (.cons cI (.cons (.sl cI) (.cons cI (.cons (.arr 5 cI) (.cons (.sl (.cons cI (.cons (.cons cI (.cons cI cVal)) .nil))) .nil)))))
abbrev r26_Decode_e0 : U := .nil
def r26_Decode_s0r (v0 : Int) (v1 : List Int) (v6 : Int) (v8 : Int) (c113 : List Int) (r48 : List (Int × (Int × Int × Val) × Unit)) : Option (SRes r26_Decode_h0 r26_Decode_o0 r26_Decode_e0) :=
 bif decide (v8 < 5) then
  bif decide ((wi64 (v6 + v8)) < (v1.length : Int)) then
   bif decide (0 ≤ (wi64 (v6 + v8))) then
    bif decide ((wi64 (v6 + v8)) < (v1.length : Int)) then
     bif decide (0 ≤ v8) then
      bif decide (v8 < 5) then
       some (.next (v0, v1, v6, wi64 (v8 + 1), c113.set v8.toNat (v1.getD (wi64 (v6 + v8)).toNat 0), r48, ()))
      else none
     else none
    else none
   else none
  else
  some (.fin (.out (v0, v1, v6, c113, r48, ())))
 else
 some (.fin (.out (v0, v1, v6, c113, r48, ())))
def r26_Decode_s0 (x : r26_Decode_h0.T) : Option (SRes r26_Decode_h0 r26_Decode_o0 r26_Decode_e0) := r26_Decode_s0r x.1 x.2.1 x.2.2.1 x.2.2.2.1 x.2.2.2.2.1 x.2.2.2.2.2.1
def r26_Decode_l0 (x : r26_Decode_h0.T) : Option (LRes r26_Decode_o0 r26_Decode_e0) := iterL r26_Decode_s0 9223372036854775808 x
abbrev r26_Decode_h1 : U := (.cons cI (.cons (.sl cI) (.cons cI (.cons (.sl (.cons cI (.cons (.cons cI (.cons cI cVal)) .nil))) .nil))))
abbrev r26_Decode_o1 : U := (.cons (.sl (.cons cI (.cons (.cons cI (.cons cI cVal)) .nil))) .nil)
abbrev r26_Decode_e1 : U := .nil
def r26_Decode_s1r (v0 : Int) (v1 : List Int) (v6 : Int) (r48 : List (Int × (Int × Int × Val) × Unit)) : Option (SRes r26_Decode_h1 r26_Decode_o1 r26_Decode_e1) :=
 bif decide (v6 < (v1.length : Int)) then
  (r26_Decode_l0 (v0, v1, v6, 0, List.replicate 5 0, r48, ())).bind fun s1 => match s1 with
  | .out s1 =>
   (r26_rest (s1.2.2.2.1.getD 0 0, wi64 (s1.1 + 2), ())).bind fun y2 =>
   bif y2.1 == s1.1 then
    bif decide ((s1.2.2.2.2.1.length + 1) * 40 ≤ 140737488355328) then
     some (.next (s1.1, s1.2.1, wi64 (s1.2.2.1 + 5), s1.2.2.2.2.1 ++ [((-1), (0, 0, 0, 0, ()), ())], ()))
    else none
   else
   bif decide (y2.1 > s1.1) then
    bif decide ((s1.2.2.2.2.1.length + 1) * 40 ≤ 140737488355328) then
     some (.next (s1.1, s1.2.1, wi64 (s1.2.2.1 + 5), s1.2.2.2.2.1 ++ [((-2), (0, 0, 0, 0, ()), ())], ()))
    else none
   else
   (r26_rest (s1.2.2.2.1.getD 1 0, 7, ())).bind fun y3 =>
   (r26_rest (s1.2.2.2.1.getD 2 0, 17, ())).bind fun y4 =>
   (r26_rest (s1.2.2.2.1.getD 3 0, 17, ())).bind fun y5 =>
   (r26_rest (s1.2.2.2.1.getD 4 0, 17, ())).bind fun y6 =>
   bif decide ((s1.2.2.2.2.1.length + 1) * 40 ≤ 140737488355328) then
    some (.next (s1.1, s1.2.1, wi64 (s1.2.2.1 + 5), s1.2.2.2.2.1 ++ [(y2.1, (y3.1, y4.1, y5.1, y6.1, ()), ())], ()))
   else none
  | .ret s1 =>
   none
 else
 some (.fin (.out (r48, ())))
def r26_Decode_s1 (x : r26_Decode_h1.T) : Option (SRes r26_Decode_h1 r26_Decode_o1 r26_Decode_e1) := r26_Decode_s1r x.1 x.2.1 x.2.2.1 x.2.2.2.1
def r26_Decode_l1 (x : r26_Decode_h1.T) : Option (LRes r26_Decode_o1 r26_Decode_e1) := iterL r26_Decode_s1 9223372036854775808 x
def r26_Decode_r (a0 : Int) (a1 : List Int) : Option ((List (Int × (Int × Int × Val) × Unit)) × Unit) :=
 (r26_Decode_l1 (a0, a1, 0, [], ())).bind fun s7 => match s7 with
 | .out s7 =>
  some (s7.1, ())
 | .ret s7 =>
  none
def r26_Decode (x : Grey) : Option ((List (Int × (Int × Int × Val) × Unit)) × Unit) := r26_Decode_r x.1 x.2.1
def r26_Decode_sm : Sum := ⟨cGrey, (.cons (.own (.cons cI (.cons (.cons cI (.cons cI cVal)) .nil))) .nil), r26_Decode⟩
def r26_Decode_L0 : LoopSum := { hc := ⟨[], [0, 1, 5, 6, 7, 8], [], [], [113], [48], 145⟩, h := ⟨[(0, (.d cI)), (1, (.d (.sl cI))), (5, (.row 48)), (6, (.d cI)), (7, (.pvar 113 [])), (8, (.d cI))], [(113, (.d (.arr 5 cI)))], [(48, (.cons cI (.cons (.cons cI (.cons cI cVal)) .nil)), true)], 145, false⟩, xid := 2, oc := ⟨[], [0, 1, 5, 6, 7], [], [], [113], [48], 145⟩, o := ⟨[(0, (.d cI)), (1, (.d (.sl cI))), (5, (.row 48)), (6, (.d cI)), (7, (.pvar 113 []))], [(113, (.d (.arr 5 cI)))], [(48, (.cons cI (.cons (.cons cI (.cons cI cVal)) .nil)), true)], 145, false⟩, rc := ⟨[], [], [], [], [145], [], 145⟩, r := ⟨[], [], [], 145, false⟩, F := r26_Decode_l0 }
def r26_Decode_L1 : LoopSum := { hc := ⟨[], [0, 1, 5, 6], [(.tmp 5, (.cons cI (.cons (.cons cI (.cons cI cVal)) .nil)))], [], [], [], 48⟩, h := ⟨[(0, (.d cI)), (1, (.d (.sl cI))), (5, (.row 48)), (6, (.d cI))], [], [(48, (.cons cI (.cons (.cons cI (.cons cI cVal)) .nil)), true)], 49, false⟩, xid := 0, oc := ⟨[], [5], [(.tmp 5, (.cons cI (.cons (.cons cI (.cons cI cVal)) .nil)))], [], [], [], 48⟩, o := ⟨[(5, (.row 48))], [], [(48, (.cons cI (.cons (.cons cI (.cons cI cVal)) .nil)), true)], 49, false⟩, rc := ⟨[], [], [], [], [48], [], 48⟩, r := ⟨[], [], [], 48, false⟩, F := r26_Decode_l1 }
def r26_Decode_c : Ctx := ⟨[(23, r26_rest_sm)], [], [⟨8, 11, 0, 2, r26_Decode_L0⟩, ⟨8, 11, 0, 0, r26_Decode_L1⟩]⟩
theorem r26_Decode_sem : SemOf Tryz.prog 11 r26_Decode_sm := semC (c := r26_Decode_c) Tryz.func11 (sc r26_rest_sem an) an (ec (aeC [true, true, false, true, false, false, true, false, false, true, false, true, false, false] r26_Decode_s0 Tryz.func11) (ec (aeC [true, true, false, true, false, false] r26_Decode_s1 Tryz.func11) an)) 8
def w26_PlayDecodes_r (a0 : Int) (a1 : List Int) : Option (Bool × Unit) :=
 (w26_awake ()).bind fun y1 =>
 bif !y1.1 then
  (w26_awake ()).bind fun y2 =>
  some (y2.1, ())
 else
 bif decide ((a1.length : Int) > 1000) then
  (w26_awake ()).bind fun y3 =>
  some (y3.1, ())
 else
 (play_Decode (wi64 (1 + ((wi64 a0).tmod 8)), a1, ())).bind fun y4 =>
 (r26_Decode (wi64 (1 + ((wi64 a0).tmod 8)), a1, ())).bind fun y5 =>
 (r26_Same (y4.1, y5.1, ())).bind fun y6 =>
 some (y6.1, ())
def w26_PlayDecodes (x : Int × (List Int) × Unit) : Option (Bool × Unit) := w26_PlayDecodes_r x.1 x.2.1
def w26_PlayDecodes_sm : Sum := ⟨(.cons (.int .u8) (.cons (.sl cI) .nil)), (.cons (.d .bool) .nil), w26_PlayDecodes⟩
def w26_PlayDecodes_c : Ctx := ⟨[(8, w26_awake_sm), (9, r26_Same_sm), (10, play_Decode_sm), (11, r26_Decode_sm)], [], []⟩
theorem w26_PlayDecodes_sem : SemOf Tryz.prog 3 w26_PlayDecodes_sm := semC (c := w26_PlayDecodes_c) Tryz.func3 (sc w26_awake_sem (sc r26_Same_sem (sc play_Decode_sem (sc r26_Decode_sem an)))) an an 8
abbrev w26_PlayParts_h0 : U := (.cons (.sl cI) (.cons (.int .i8) (.cons cI (.cons cI (.cons (.sl (.cons cI (.cons (.cons cI (.cons cI cVal)) .nil))) (.cons (.sl (.cons cI (.cons (.cons cI (.cons cI cVal)) .nil))) (.cons (.sl (.cons cI (.cons (.cons cI (.cons cI cVal)) .nil))) (.cons (.sl cI) .nil))))))))
abbrev w26_PlayParts_o0 : U := (.cons cI (.cons (.sl (.cons cI (.cons (.cons cI (.cons cI cVal)) .nil))) (.cons (.sl (.cons cI (.cons (.cons cI (.cons cI cVal)) .nil))) (.cons (.sl (.cons cI (.cons (.cons cI (.cons cI cVal)) .nil))) (.cons (.sl cI) .nil)))))
abbrev w26_PlayParts_e0 : U := .nil
def w26_PlayParts_s0r (v1 : List Int) (v3 : Int) (v9 : Int) (v15 : Int) (r240 : List (Int × (Int × Int × Val) × Unit)) (r480 : List (Int × (Int × Int × Val) × Unit)) (r576 : List (Int × (Int × Int × Val) × Unit)) (r640 : List Int) : Option (SRes w26_PlayParts_h0 w26_PlayParts_o0 w26_PlayParts_e0) :=
 bif decide (v15 < (v1.length : Int)) then
  bif (v15.tmod 5) == 0 then
   bif (v15.tmod 5) == 1 then
    bif decide (0 ≤ v15) then
     bif decide (v15 < (v1.length : Int)) then
      bif decide ((r640.length + 1) * 8 ≤ 140737488355328) then
       some (.next (v1, v3, v9, wi64 (v15 + 1), r240, r480, r576, r640 ++ [wi64 (((v1.getD v15.toNat 0).tmod 7) + (wi64 (7 * (wi64 v3))))], ()))
      else none
     else none
    else none
   else
   bif decide (0 ≤ v15) then
    bif decide (v15 < (v1.length : Int)) then
     bif (wi64 (v9 + 2)) == 0 then none else
     bif decide ((r640.length + 1) * 8 ≤ 140737488355328) then
      some (.next (v1, v3, v9, wi64 (v15 + 1), r240, r480, r576, r640 ++ [wi64 (((v1.getD v15.toNat 0).tmod (wi64 (v9 + 2))) + (wi64 ((wi64 (v9 + 2)) * (wi64 v3))))], ()))
     else none
    else none
   else none
  else
  bif (v15.tmod 5) == 1 then
   bif decide (0 ≤ v15) then
    bif decide (v15 < (v1.length : Int)) then
     bif decide ((r640.length + 1) * 8 ≤ 140737488355328) then
      some (.next (v1, v3, v9, wi64 (v15 + 1), r240, r480, r576, r640 ++ [wi64 (((v1.getD v15.toNat 0).tmod 7) + (wi64 (7 * (wi64 v3))))], ()))
     else none
    else none
   else none
  else
  bif decide (0 ≤ v15) then
   bif decide (v15 < (v1.length : Int)) then
    bif decide ((r640.length + 1) * 8 ≤ 140737488355328) then
     some (.next (v1, v3, v9, wi64 (v15 + 1), r240, r480, r576, r640 ++ [wi64 (((v1.getD v15.toNat 0).tmod 17) + (wi64 (17 * (wi64 v3))))], ()))
    else none
   else none
  else none
 else
 some (.fin (.out (v9, r240, r480, r576, r640, ())))
def w26_PlayParts_s0 (x : w26_PlayParts_h0.T) : Option (SRes w26_PlayParts_h0 w26_PlayParts_o0 w26_PlayParts_e0) := w26_PlayParts_s0r x.1 x.2.1 x.2.2.1 x.2.2.2.1 x.2.2.2.2.1 x.2.2.2.2.2.1 x.2.2.2.2.2.2.1 x.2.2.2.2.2.2.2.1
def w26_PlayParts_l0 (x : w26_PlayParts_h0.T) : Option (LRes w26_PlayParts_o0 w26_PlayParts_e0) := iterL w26_PlayParts_s0 9223372036854775808 x
def w26_PlayParts_r (a0 : Int) (a1 : List Int) (a2 : Int) (a3 : Int) : Option (Bool × Unit) :=
 (w26_awake ()).bind fun y1 =>
 bif !y1.1 then
  (w26_awake ()).bind fun y2 =>
  some (y2.1, ())
 else
 bif decide ((a1.length : Int) > 1000) then
  (w26_awake ()).bind fun y3 =>
  some (y3.1, ())
 else
 (play_Decode (wi64 (1 + ((wi64 a0).tmod 8)), a1, ())).bind fun y4 =>
 bif (wi64 ((wi64 ((a1.length : Int).tdiv 5)) + 1)) == 0 then none else
 bif decide (0 ≤ (wi64 (5 * ((wi64 a2).tmod (wi64 ((wi64 ((a1.length : Int).tdiv 5)) + 1)))))) then
  bif decide ((wi64 (5 * ((wi64 a2).tmod (wi64 ((wi64 ((a1.length : Int).tdiv 5)) + 1))))) ≤ (a1.length : Int)) then
   (play_Decode (wi64 (1 + ((wi64 a0).tmod 8)), (a1.drop 0).take ((wi64 (5 * ((wi64 a2).tmod (wi64 ((wi64 ((a1.length : Int).tdiv 5)) + 1))))).toNat - 0), ())).bind fun y5 =>
   bif decide (0 ≤ (wi64 (5 * ((wi64 a2).tmod (wi64 ((wi64 ((a1.length : Int).tdiv 5)) + 1)))))) then
    bif decide ((wi64 (5 * ((wi64 a2).tmod (wi64 ((wi64 ((a1.length : Int).tdiv 5)) + 1))))) ≤ (a1.length : Int)) then
     bif decide ((a1.length : Int) ≤ (a1.length : Int)) then
      (play_Decode (wi64 (1 + ((wi64 a0).tmod 8)), (a1.drop (wi64 (5 * ((wi64 a2).tmod (wi64 ((wi64 ((a1.length : Int).tdiv 5)) + 1))))).toNat).take ((a1.length : Int).toNat - (wi64 (5 * ((wi64 a2).tmod (wi64 ((wi64 ((a1.length : Int).tdiv 5)) + 1))))).toNat), ())).bind fun y6 =>
      (w26_PlayParts_l0 (a1, a3, wi64 (1 + ((wi64 a0).tmod 8)), 0, y4.1, y5.1, y6.1, [], ())).bind fun s7 => match s7 with
      | .out s7 =>
       bif decide ((0 + s7.2.2.1.length) * 40 ≤ 140737488355328) then
        bif decide ((s7.2.2.1.length + s7.2.2.2.1.length) * 40 ≤ 140737488355328) then
         (r26_Same (s7.2.1, s7.2.2.1 ++ s7.2.2.2.1, ())).bind fun y8 =>
         bif y8.1 then
          (play_Decode (s7.1, s7.2.2.2.2.1, ())).bind fun y9 =>
          (r26_Same (y9.1, s7.2.1, ())).bind fun y10 =>
          some (y10.1, ())
         else
         some (false, ())
        else none
       else none
      | .ret s7 =>
       none
     else none
    else none
   else none
  else none
 else none
def w26_PlayParts (x : Int × (List Int) × Int × Int × Unit) : Option (Bool × Unit) := w26_PlayParts_r x.1 x.2.1 x.2.2.1 x.2.2.2.1
def w26_PlayParts_sm : Sum := ⟨(.cons (.int .u8) (.cons (.sl cI) (.cons (.int .u8) (.cons (.int .i8) .nil)))), (.cons (.d .bool) .nil), w26_PlayParts⟩
def w26_PlayParts_L0 : LoopSum := { hc := ⟨[], [1, 3, 9, 10, 12, 13, 14, 15], [(.tmp 14, cI)], [], [], [240, 480, 576], 640⟩, h := ⟨[(1, (.d (.sl cI))), (3, (.d (.int .i8))), (9, (.d cI)), (10, (.row 240)), (12, (.row 480)), (13, (.row 576)), (14, (.row 640)), (15, (.d cI))], [], [(240, (.cons cI (.cons (.cons cI (.cons cI cVal)) .nil)), true), (480, (.cons cI (.cons (.cons cI (.cons cI cVal)) .nil)), true), (576, (.cons cI (.cons (.cons cI (.cons cI cVal)) .nil)), true), (640, cI, true)], 641, false⟩, xid := 0, oc := ⟨[], [9, 10, 12, 13, 14], [(.tmp 14, cI)], [], [], [240, 480, 576], 640⟩, o := ⟨[(9, (.d cI)), (10, (.row 240)), (12, (.row 480)), (13, (.row 576)), (14, (.row 640))], [], [(240, (.cons cI (.cons (.cons cI (.cons cI cVal)) .nil)), true), (480, (.cons cI (.cons (.cons cI (.cons cI cVal)) .nil)), true), (576, (.cons cI (.cons (.cons cI (.cons cI cVal)) .nil)), true), (640, cI, true)], 641, false⟩, rc := ⟨[], [], [], [], [640], [], 640⟩, r := ⟨[], [], [], 640, false⟩, F := w26_PlayParts_l0 }
def w26_PlayParts_c : Ctx := ⟨[(8, w26_awake_sm), (9, r26_Same_sm), (10, play_Decode_sm)], [], [⟨8, 7, 0, 0, w26_PlayParts_L0⟩]⟩
theorem w26_PlayParts_sem : SemOf Tryz.prog 7 w26_PlayParts_sm := semC (c := w26_PlayParts_c) Tryz.func7 (sc w26_awake_sem (sc r26_Same_sem (sc play_Decode_sem an))) an (ec (aeC [true, true, true, true, true, true, true, true, false, true, false, false] w26_PlayParts_s0 Tryz.func7) an) 8
def r26_byted_r (a0 : Int) : Option (Bool × Unit) :=
 bif decide (a0 ≥ 0) then
  some (decide (a0 ≤ 255), ())
 else
 some (false, ())
def r26_byted (x : Int × Unit) : Option (Bool × Unit) := r26_byted_r x.1
def r26_byted_sm : Sum := ⟨(.cons cI .nil), (.cons (.d .bool) .nil), r26_byted⟩
def r26_byted_c : Ctx := ⟨[], [], []⟩
theorem r26_byted_sem : SemOf Tryz.prog 32 r26_byted_sm := semC (c := r26_byted_c) Tryz.func32 an an an 8
abbrev r26_Put_h0 : U := (.cons (.sl (.cons cI (.cons (.cons cI (.cons cI cVal)) .nil))) (.cons cI (.cons (.sl (.int .u8)) .nil)))
abbrev r26_Put_o0 : U := (.cons (.sl (.int .u8)) .nil)
abbrev r26_Put_e0 : U := (.cons cI .nil)
def r26_Put_s0r (v0 : List (Int × (Int × Int × Val) × Unit)) (v5 : Int) (r64 : List Int) : Option (SRes r26_Put_h0 r26_Put_o0 r26_Put_e0) :=
 bif decide (v5 < (v0.length : Int)) then
  bif decide (0 ≤ v5) then
   bif decide (v5 < (v0.length : Int)) then
    bif (v0.getD v5.toNat (0, (0, 0, 0, 0, ()), ())).1 == (-1) then
     bif !(((v0.getD v5.toNat (0, (0, 0, 0, 0, ()), ())).2.1.1 == 0) && (((v0.getD v5.toNat (0, (0, 0, 0, 0, ()), ())).2.1.2.1 == 0) && (((v0.getD v5.toNat (0, (0, 0, 0, 0, ()), ())).2.1.2.2.1 == 0) && (((v0.getD v5.toNat (0, (0, 0, 0, 0, ()), ())).2.1.2.2.2.1 == 0) && true)))) then
      some (.fin (.ret (8, ())))
     else
     bif decide ((r64.length + 5) * 1 ≤ 140737488355328) then
      some (.next (v0, wi64 (v5 + 1), r64 ++ [wu8 (wi64 (253 - (v0.getD v5.toNat (0, (0, 0, 0, 0, ()), ())).1)), 0, 0, 0, 0], ()))
     else none
    else
    bif (v0.getD v5.toNat (0, (0, 0, 0, 0, ()), ())).1 == (-2) then
     bif !(((v0.getD v5.toNat (0, (0, 0, 0, 0, ()), ())).2.1.1 == 0) && (((v0.getD v5.toNat (0, (0, 0, 0, 0, ()), ())).2.1.2.1 == 0) && (((v0.getD v5.toNat (0, (0, 0, 0, 0, ()), ())).2.1.2.2.1 == 0) && (((v0.getD v5.toNat (0, (0, 0, 0, 0, ()), ())).2.1.2.2.2.1 == 0) && true)))) then
      some (.fin (.ret (8, ())))
     else
     bif decide ((r64.length + 5) * 1 ≤ 140737488355328) then
      some (.next (v0, wi64 (v5 + 1), r64 ++ [wu8 (wi64 (253 - (v0.getD v5.toNat (0, (0, 0, 0, 0, ()), ())).1)), 0, 0, 0, 0], ()))
     else none
    else
    bif decide ((v0.getD v5.toNat (0, (0, 0, 0, 0, ()), ())).1 < 0) then
     some (.fin (.ret (8, ())))
    else
    bif decide ((v0.getD v5.toNat (0, (0, 0, 0, 0, ()), ())).1 > 7) then
     some (.fin (.ret (8, ())))
    else
    (r26_byted ((v0.getD v5.toNat (0, (0, 0, 0, 0, ()), ())).2.1.1, ())).bind fun y1 =>
    bif !y1.1 then
     some (.fin (.ret (8, ())))
    else
    (r26_byted ((v0.getD v5.toNat (0, (0, 0, 0, 0, ()), ())).2.1.2.1, ())).bind fun y2 =>
    bif !y2.1 then
     some (.fin (.ret (8, ())))
    else
    (r26_byted ((v0.getD v5.toNat (0, (0, 0, 0, 0, ()), ())).2.1.2.2.1, ())).bind fun y3 =>
    bif !y3.1 then
     some (.fin (.ret (8, ())))
    else
    (r26_byted ((v0.getD v5.toNat (0, (0, 0, 0, 0, ()), ())).2.1.2.2.2.1, ())).bind fun y4 =>
    bif !y4.1 then
     some (.fin (.ret (8, ())))
    else
    bif decide ((r64.length + 5) * 1 ≤ 140737488355328) then
     some (.next (v0, wi64 (v5 + 1), r64 ++ [wu8 (v0.getD v5.toNat (0, (0, 0, 0, 0, ()), ())).1, wu8 (v0.getD v5.toNat (0, (0, 0, 0, 0, ()), ())).2.1.1, wu8 (v0.getD v5.toNat (0, (0, 0, 0, 0, ()), ())).2.1.2.1, wu8 (v0.getD v5.toNat (0, (0, 0, 0, 0, ()), ())).2.1.2.2.1, wu8 (v0.getD v5.toNat (0, (0, 0, 0, 0, ()), ())).2.1.2.2.2.1], ()))
    else none
   else none
  else none
 else
 some (.fin (.out (r64, ())))
def r26_Put_s0 (x : r26_Put_h0.T) : Option (SRes r26_Put_h0 r26_Put_o0 r26_Put_e0) := r26_Put_s0r x.1 x.2.1 x.2.2.1
def r26_Put_l0 (x : r26_Put_h0.T) : Option (LRes r26_Put_o0 r26_Put_e0) := iterL r26_Put_s0 9223372036854775808 x
def r26_Put_r (a0 : List (Int × (Int × Int × Val) × Unit)) : Option ((List Int) × Int × Unit) :=
 (r26_Put_l0 (a0, 0, [], ())).bind fun s5 => match s5 with
 | .out s5 =>
  some (s5.1, 0, ())
 | .ret s5 =>
  some ([], s5.1, ())
def r26_Put (x : (List (Int × (Int × Int × Val) × Unit)) × Unit) : Option ((List Int) × Int × Unit) := r26_Put_r x.1
def r26_Put_sm : Sum := ⟨(.cons (.sl (.cons cI (.cons (.cons cI (.cons cI cVal)) .nil))) .nil), (.cons (.own (.int .u8)) (.cons (.d cI) .nil)), r26_Put⟩
def r26_Put_L0 : LoopSum := { hc := ⟨[], [0, 4, 5], [(.tmp 4, (.int .u8))], [], [], [], 64⟩, h := ⟨[(0, (.d (.sl (.cons cI (.cons (.cons cI (.cons cI cVal)) .nil))))), (4, (.row 64)), (5, (.d cI))], [], [(64, (.int .u8), true)], 65, false⟩, xid := 0, oc := ⟨[], [4], [(.tmp 4, (.int .u8))], [], [], [], 64⟩, o := ⟨[(4, (.row 64))], [], [(64, (.int .u8), true)], 65, false⟩, rc := ⟨[], [2, 3], [], [], [], [], 64⟩, r := ⟨[(2, .nilsl), (3, (.d cI))], [], [], 64, false⟩, F := r26_Put_l0 }
def r26_Put_c : Ctx := ⟨[(32, r26_byted_sm)], [], [⟨8, 18, 0, 0, r26_Put_L0⟩]⟩
theorem r26_Put_sem : SemOf Tryz.prog 18 r26_Put_sm := semC (c := r26_Put_c) Tryz.func18 (sc r26_byted_sem an) an (ec (aeC [true, true, false, true, false, false] r26_Put_s0 Tryz.func18) an) 8
abbrev r26_Get_h0 : U := (.cons (.sl (.int .u8)) (.cons cI (.cons (.sl (.cons cI (.cons (.cons cI (.cons cI cVal)) .nil))) .nil)))
abbrev r26_Get_o0 : U := (.cons (.sl (.cons cI (.cons (.cons cI (.cons cI cVal)) .nil))) .nil)
abbrev r26_Get_e0 : U := (.cons cI .nil)
def r26_Get_s0r (v0 : List Int) (v5 : Int) (r128 : List (Int × (Int × Int × Val) × Unit)) : Option (SRes r26_Get_h0 r26_Get_o0 r26_Get_e0) :=
 bif decide (v5 < (v0.length : Int)) then
  bif decide (0 ≤ v5) then
   bif decide (v5 < (v0.length : Int)) then
    bif decide (0 ≤ (wi64 (v5 + 1))) then
     bif decide ((wi64 (v5 + 1)) < (v0.length : Int)) then
      bif decide (0 ≤ (wi64 (v5 + 2))) then
       bif decide ((wi64 (v5 + 2)) < (v0.length : Int)) then
        bif decide (0 ≤ (wi64 (v5 + 3))) then
         bif decide ((wi64 (v5 + 3)) < (v0.length : Int)) then
          bif decide (0 ≤ (wi64 (v5 + 4))) then
           bif decide ((wi64 (v5 + 4)) < (v0.length : Int)) then
            bif decide ((wi64 (v0.getD v5.toNat 0)) ≥ 254) then
             (r26_Put ([(wi64 (253 - (wi64 (v0.getD v5.toNat 0))), (wi64 (v0.getD (wi64 (v5 + 1)).toNat 0), wi64 (v0.getD (wi64 (v5 + 2)).toNat 0), wi64 (v0.getD (wi64 (v5 + 3)).toNat 0), wi64 (v0.getD (wi64 (v5 + 4)).toNat 0), ()), ())], ())).bind fun y1 =>
             bif y1.2.1 != 0 then
              some (.fin (.ret (8, ())))
             else
             bif decide ((r128.length + 1) * 40 ≤ 140737488355328) then
              some (.next (v0, wi64 (v5 + 5), r128 ++ [(wi64 (253 - (wi64 (v0.getD v5.toNat 0))), (wi64 (v0.getD (wi64 (v5 + 1)).toNat 0), wi64 (v0.getD (wi64 (v5 + 2)).toNat 0), wi64 (v0.getD (wi64 (v5 + 3)).toNat 0), wi64 (v0.getD (wi64 (v5 + 4)).toNat 0), ()), ())], ()))
             else none
            else
            (r26_Put ([(wi64 (v0.getD v5.toNat 0), (wi64 (v0.getD (wi64 (v5 + 1)).toNat 0), wi64 (v0.getD (wi64 (v5 + 2)).toNat 0), wi64 (v0.getD (wi64 (v5 + 3)).toNat 0), wi64 (v0.getD (wi64 (v5 + 4)).toNat 0), ()), ())], ())).bind fun y2 =>
            bif y2.2.1 != 0 then
             some (.fin (.ret (8, ())))
            else
            bif decide ((r128.length + 1) * 40 ≤ 140737488355328) then
             some (.next (v0, wi64 (v5 + 5), r128 ++ [(wi64 (v0.getD v5.toNat 0), (wi64 (v0.getD (wi64 (v5 + 1)).toNat 0), wi64 (v0.getD (wi64 (v5 + 2)).toNat 0), wi64 (v0.getD (wi64 (v5 + 3)).toNat 0), wi64 (v0.getD (wi64 (v5 + 4)).toNat 0), ()), ())], ()))
            else none
           else none
          else none
         else none
        else none
       else none
      else none
     else none
    else none
   else none
  else none
 else
 some (.fin (.out (r128, ())))
def r26_Get_s0 (x : r26_Get_h0.T) : Option (SRes r26_Get_h0 r26_Get_o0 r26_Get_e0) := r26_Get_s0r x.1 x.2.1 x.2.2.1
def r26_Get_l0 (x : r26_Get_h0.T) : Option (LRes r26_Get_o0 r26_Get_e0) := iterL r26_Get_s0 9223372036854775808 x
def r26_Get_r (a0 : List Int) : Option ((List (Int × (Int × Int × Val) × Unit)) × Int × Unit) :=
 bif ((a0.length : Int).tmod 5) != 0 then
  some ([], 8, ())
 else
 (r26_Get_l0 (a0, 0, [], ())).bind fun s3 => match s3 with
 | .out s3 =>
  some (s3.1, 0, ())
 | .ret s3 =>
  some ([], s3.1, ())
def r26_Get (x : (List Int) × Unit) : Option ((List (Int × (Int × Int × Val) × Unit)) × Int × Unit) := r26_Get_r x.1
def r26_Get_sm : Sum := ⟨(.cons (.sl (.int .u8)) .nil), (.cons (.own (.cons cI (.cons (.cons cI (.cons cI cVal)) .nil))) (.cons (.d cI) .nil)), r26_Get⟩
def r26_Get_L0 : LoopSum := { hc := ⟨[], [0, 4, 5], [(.tmp 4, (.cons cI (.cons (.cons cI (.cons cI cVal)) .nil)))], [], [], [], 128⟩, h := ⟨[(0, (.d (.sl (.int .u8)))), (4, (.row 128)), (5, (.d cI))], [], [(128, (.cons cI (.cons (.cons cI (.cons cI cVal)) .nil)), true)], 129, false⟩, xid := 0, oc := ⟨[], [4], [(.tmp 4, (.cons cI (.cons (.cons cI (.cons cI cVal)) .nil)))], [], [], [], 128⟩, o := ⟨[(4, (.row 128))], [], [(128, (.cons cI (.cons (.cons cI (.cons cI cVal)) .nil)), true)], 129, false⟩, rc := ⟨[], [2, 3], [], [], [], [], 128⟩, r := ⟨[(2, .nilsl), (3, (.d cI))], [], [], 128, false⟩, F := r26_Get_l0 }
def r26_Get_c : Ctx := ⟨[(18, r26_Put_sm)], [], [⟨8, 20, 0, 0, r26_Get_L0⟩]⟩
theorem r26_Get_sem : SemOf Tryz.prog 20 r26_Get_sm := semC (c := r26_Get_c) Tryz.func20 (sc r26_Put_sem an) an (ec (aeC [true, true, true, false, true, false, false] r26_Get_s0 Tryz.func20) an) 8
def w26_PlayFiles_r (a0 : List (Int × (Int × Int × Val) × Unit)) (a1 : List Int) : Option (Bool × Unit) :=
 (w26_awake ()).bind fun y1 =>
 bif !y1.1 then
  (w26_awake ()).bind fun y2 =>
  some (y2.1, ())
 else
 bif decide ((a0.length : Int) > 300) then
  (w26_awake ()).bind fun y3 =>
  some (y3.1, ())
 else
 bif decide ((a1.length : Int) > 2000) then
  (w26_awake ()).bind fun y4 =>
  some (y4.1, ())
 else
 (play_Put (a0, ())).bind fun y5 =>
 (r26_Put (a0, ())).bind fun y6 =>
 (play_Get (a1, ())).bind fun y7 =>
 (r26_Get (a1, ())).bind fun y8 =>
 bif strQ y5.1 y6.1 then
  bif y5.2.1 == y6.2.1 then
   (r26_Same (y7.1, y8.1, ())).bind fun y9 =>
   bif y9.1 then
    some (y7.2.1 == y8.2.1, ())
   else
   some (false, ())
  else
  some (false, ())
 else
 some (false, ())
def w26_PlayFiles (x : (List (Int × (Int × Int × Val) × Unit)) × (List Int) × Unit) : Option (Bool × Unit) := w26_PlayFiles_r x.1 x.2.1
def w26_PlayFiles_sm : Sum := ⟨(.cons (.sl (.cons cI (.cons (.cons cI (.cons cI cVal)) .nil))) (.cons (.sl (.int .u8)) .nil)), (.cons (.d .bool) .nil), w26_PlayFiles⟩
def w26_PlayFiles_c : Ctx := ⟨[(8, w26_awake_sm), (9, r26_Same_sm), (17, play_Put_sm), (18, r26_Put_sm), (19, play_Get_sm), (20, r26_Get_sm)], [], []⟩
theorem w26_PlayFiles_sem : SemOf Tryz.prog 5 w26_PlayFiles_sm := semC (c := w26_PlayFiles_c) Tryz.func5 (sc w26_awake_sem (sc r26_Same_sem (sc play_Put_sem (sc r26_Put_sem (sc play_Get_sem (sc r26_Get_sem an)))))) an an 8
def w26_PlayBack_r (a0 : List (Int × (Int × Int × Val) × Unit)) (a1 : List (Int × (Int × Int × Val) × Unit)) (a2 : List Int) : Option (Bool × Unit) :=
 (w26_awake ()).bind fun y1 =>
 bif !y1.1 then
  (w26_awake ()).bind fun y2 =>
  some (y2.1, ())
 else
 bif decide ((a0.length : Int) > 300) then
  (w26_awake ()).bind fun y3 =>
  some (y3.1, ())
 else
 bif decide ((a1.length : Int) > 300) then
  (w26_awake ()).bind fun y4 =>
  some (y4.1, ())
 else
 bif decide ((a2.length : Int) > 2000) then
  (w26_awake ()).bind fun y5 =>
  some (y5.1, ())
 else
 (play_Put (a0, ())).bind fun y6 =>
 (play_Put (a1, ())).bind fun y7 =>
 bif y6.2.1 == 0 then
  bif y7.2.1 == 0 then
   (r26_Same (a0, a1, ())).bind fun y8 =>
   bif !((strQ y6.1 y7.1) == y8.1) then
    some (false, ())
   else
   (play_Get (a2, ())).bind fun y9 =>
   (play_Put (y9.1, ())).bind fun y10 =>
   bif y9.2.1 != 0 then
    bif (y9.1.length : Int) == 0 then
     some (true, ())
    else
    bif y10.2.1 == 0 then
     some (strQ y10.1 a2, ())
    else
    some (false, ())
   else
   bif y10.2.1 == 0 then
    some (strQ y10.1 a2, ())
   else
   some (false, ())
  else
  (play_Get (a2, ())).bind fun y11 =>
  (play_Put (y11.1, ())).bind fun y12 =>
  bif y11.2.1 != 0 then
   bif (y11.1.length : Int) == 0 then
    some (true, ())
   else
   bif y12.2.1 == 0 then
    some (strQ y12.1 a2, ())
   else
   some (false, ())
  else
  bif y12.2.1 == 0 then
   some (strQ y12.1 a2, ())
  else
  some (false, ())
 else
 (play_Get (a2, ())).bind fun y13 =>
 (play_Put (y13.1, ())).bind fun y14 =>
 bif y13.2.1 != 0 then
  bif (y13.1.length : Int) == 0 then
   some (true, ())
  else
  bif y14.2.1 == 0 then
   some (strQ y14.1 a2, ())
  else
  some (false, ())
 else
 bif y14.2.1 == 0 then
  some (strQ y14.1 a2, ())
 else
 some (false, ())
def w26_PlayBack (x : (List (Int × (Int × Int × Val) × Unit)) × (List (Int × (Int × Int × Val) × Unit)) × (List Int) × Unit) : Option (Bool × Unit) := w26_PlayBack_r x.1 x.2.1 x.2.2.1
def w26_PlayBack_sm : Sum := ⟨(.cons (.sl (.cons cI (.cons (.cons cI (.cons cI cVal)) .nil))) (.cons (.sl (.cons cI (.cons (.cons cI (.cons cI cVal)) .nil))) (.cons (.sl (.int .u8)) .nil))), (.cons (.d .bool) .nil), w26_PlayBack⟩
def w26_PlayBack_c : Ctx := ⟨[(8, w26_awake_sm), (9, r26_Same_sm), (17, play_Put_sm), (19, play_Get_sm)], [], []⟩
theorem w26_PlayBack_sem : SemOf Tryz.prog 6 w26_PlayBack_sm := semC (c := w26_PlayBack_c) Tryz.func6 (sc w26_awake_sem (sc r26_Same_sem (sc play_Put_sem (sc play_Get_sem an)))) an an 8
end
end Go.Proofs.YtpabbpncacnnfaaGreatDoor.Den
