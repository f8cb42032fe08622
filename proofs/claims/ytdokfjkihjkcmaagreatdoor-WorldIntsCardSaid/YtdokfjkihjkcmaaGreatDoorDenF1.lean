/- What functions come to. Printed by a program of this session. -/
import Derived.Test.YtdokfjkihjkcmaaGreatDoorDenF0
namespace Go.Proofs.YtdokfjkihjkcmaaGreatDoor.Den
open Go
set_option maxRecDepth 100000
set_option linter.unusedVariables false
noncomputable section
def math_bits_Mul32_r (a0 : Int) (a1 : Int) : Option (Int × Int × Unit) :=
 some (wu32 (shiftI false .u64 (wu64 ((wu64 a0) * (wu64 a1))) 32), wu32 (wu64 ((wu64 a0) * (wu64 a1))), ())
def math_bits_Mul32 (x : Int × Int × Unit) : Option (Int × Int × Unit) := math_bits_Mul32_r x.1 x.2.1
def math_bits_Mul32_sm : Sum := ⟨(.cons (.int .u32) (.cons (.int .u32) .nil)), (.cons (.d (.int .u32)) (.cons (.d (.int .u32)) .nil)), math_bits_Mul32⟩
def math_bits_Mul32_c : Ctx := ⟨[], [], []⟩
theorem math_bits_Mul32_sem : SemOf Tryz.prog 144 math_bits_Mul32_sm := semC (c := math_bits_Mul32_c) Tryz.func144 an an an 8
def math_bits_Mul64_r (a0 : Int) (a1 : Int) : Option (Int × Int × Unit) :=
 some (wu64 ((wu64 ((wu64 ((shiftI false .u64 a0 32) * (shiftI false .u64 a1 32))) + (shiftI false .u64 (wu64 ((wu64 ((shiftI false .u64 a0 32) * (bitsI .and .u64 a1 4294967295))) + (shiftI false .u64 (wu64 ((bitsI .and .u64 a0 4294967295) * (bitsI .and .u64 a1 4294967295))) 32))) 32))) + (shiftI false .u64 (wu64 ((bitsI .and .u64 (wu64 ((wu64 ((shiftI false .u64 a0 32) * (bitsI .and .u64 a1 4294967295))) + (shiftI false .u64 (wu64 ((bitsI .and .u64 a0 4294967295) * (bitsI .and .u64 a1 4294967295))) 32))) 4294967295) + (wu64 ((bitsI .and .u64 a0 4294967295) * (shiftI false .u64 a1 32))))) 32)), wu64 (a0 * a1), ())
def math_bits_Mul64 (x : Int × Int × Unit) : Option (Int × Int × Unit) := math_bits_Mul64_r x.1 x.2.1
def math_bits_Mul64_sm : Sum := ⟨(.cons (.int .u64) (.cons (.int .u64) .nil)), (.cons (.d (.int .u64)) (.cons (.d (.int .u64)) .nil)), math_bits_Mul64⟩
def math_bits_Mul64_c : Ctx := ⟨[], [], []⟩
theorem math_bits_Mul64_sem : SemOf Tryz.prog 145 math_bits_Mul64_sm := semC (c := math_bits_Mul64_c) Tryz.func145 an an an 8
def math_bits_Mul_r (a0 : Int) (a1 : Int) : Option (Int × Int × Unit) :=
 (math_bits_Mul64 (a0, a1, ())).bind fun y1 =>
 some (y1.1, y1.2.1, ())
def math_bits_Mul (x : Int × Int × Unit) : Option (Int × Int × Unit) := math_bits_Mul_r x.1 x.2.1
def math_bits_Mul_sm : Sum := ⟨(.cons (.int .u64) (.cons (.int .u64) .nil)), (.cons (.d (.int .u64)) (.cons (.d (.int .u64)) .nil)), math_bits_Mul⟩
def math_bits_Mul_c : Ctx := ⟨[(145, math_bits_Mul64_sm)], [], []⟩
theorem math_bits_Mul_sem : SemOf Tryz.prog 126 math_bits_Mul_sm := semC (c := math_bits_Mul_c) Tryz.func126 (sc math_bits_Mul64_sem an) an an 8
abbrev slices_Repeat_h0 : U := cGrey
abbrev slices_Repeat_o0 : U := (.cons (.sl cI) .nil)
abbrev slices_Repeat_e0 : U := .nil
def slices_Repeat_s0r (v8 : Int) (r352 : List Int) : Option (SRes slices_Repeat_h0 slices_Repeat_o0 slices_Repeat_e0) :=
 bif decide (v8 < (r352.length : Int)) then
  bif decide (0 ≤ v8) then
   bif decide (v8 ≤ (r352.length : Int)) then
    bif decide ((r352.length : Int) ≤ (r352.length : Int)) then
     bif decide (0 ≤ v8) then
      bif decide (v8 ≤ (r352.length : Int)) then
       some (.next (wi64 (v8 + ((((r352.drop 0).take (v8.toNat - 0)).take ((r352.length : Int).toNat - v8.toNat)).length : Int)), segSet r352 v8.toNat (((r352.drop 0).take (v8.toNat - 0)).take ((r352.length : Int).toNat - v8.toNat)), ()))
      else none
     else none
    else none
   else none
  else none
 else
 some (.fin (.out (r352, ())))
def slices_Repeat_s0 (x : slices_Repeat_h0.T) : Option (SRes slices_Repeat_h0 slices_Repeat_o0 slices_Repeat_e0) := slices_Repeat_s0r x.1 x.2.1
def slices_Repeat_l0 (x : slices_Repeat_h0.T) : Option (LRes slices_Repeat_o0 slices_Repeat_e0) := iterL slices_Repeat_s0 9223372036854775808 x
def slices_Repeat_r (a0 : List Int) (a1 : Int) : Option ((List Int) × Unit) :=
 bif decide (a1 < 0) then none else
 (math_bits_Mul (wu64 (a0.length : Int), wu64 a1, ())).bind fun y1 =>
 bif decide (y1.1 > 0) then none else
 bif decide (y1.2.1 > 9223372036854775807) then none else
 bif (wi64 y1.2.1) == (wi64 y1.2.1) then
  bif decide (0 ≤ (wi64 y1.2.1)) then
   bif decide ((wi64 y1.2.1).toNat * 8 ≤ 140737488355328) then
    (slices_Repeat_l0 (((a0.take (List.replicate (wi64 y1.2.1).toNat (0 : Int)).length).length : Int), segSet (List.replicate (wi64 y1.2.1).toNat (0 : Int)) 0 (a0.take (List.replicate (wi64 y1.2.1).toNat (0 : Int)).length), ())).bind fun s2 => match s2 with
    | .out s2 =>
     some (s2.1, ())
    | .ret s2 =>
     none
   else none
  else none
 else none
def slices_Repeat (x : (List Int) × Int × Unit) : Option ((List Int) × Unit) := slices_Repeat_r x.1 x.2.1
def slices_Repeat_sm : Sum := ⟨(.cons (.sl cI) (.cons cI .nil)), (.cons (.own cI) .nil), slices_Repeat⟩
def slices_Repeat_L0 : LoopSum := { hc := ⟨[], [7, 8], [], [], [], [352], 448⟩, h := ⟨[(7, (.row 352)), (8, (.d cI))], [], [(352, cI, true)], 448, false⟩, xid := 0, oc := ⟨[], [7], [], [], [], [352], 448⟩, o := ⟨[(7, (.row 352))], [], [(352, cI, true)], 448, false⟩, rc := ⟨[], [], [], [], [448], [], 448⟩, r := ⟨[], [], [], 448, false⟩, F := slices_Repeat_l0 }
def slices_Repeat_c : Ctx := ⟨[(126, math_bits_Mul_sm)], [], [⟨8, 105, 0, 0, slices_Repeat_L0⟩]⟩
theorem slices_Repeat_sem : SemOf Tryz.prog 105 slices_Repeat_sm := semC (c := slices_Repeat_c) Tryz.func105 (sc math_bits_Mul_sem an) an (ec (aeC [true, true, true, true, true, true, false, false, false] slices_Repeat_s0 Tryz.func105) an) 8
def grey_New_r (a0 : Int) : Option (Grey × Bool × Unit) :=
 bif decide (a0 < 0) then
  some ((0, [], ()), false, ())
 else
 bif decide (a0 > 16) then
  some ((0, [], ()), false, ())
 else
 some ((a0, [], ()), true, ())
def grey_New (x : Int × Unit) : Option (Grey × Bool × Unit) := grey_New_r x.1
def grey_New_sm : Sum := ⟨(.cons cI .nil), (.cons (.cons (.d cI) (.cons (.own cI) .nil)) (.cons (.d .bool) .nil)), grey_New⟩
def grey_New_c : Ctx := ⟨[], [], []⟩
theorem grey_New_sem : SemOf Tryz.prog 128 grey_New_sm := semC (c := grey_New_c) Tryz.func128 an an an 8
abbrev mark_New_h0 : U := (.cons (.sl cI) (.cons cI (.cons cI (.cons cI (.cons .nil (.cons (.cons cI (.cons cI (.cons cI (.cons .bool .nil)))) (.cons cI (.cons .nil (.cons (.cons cI (.cons cI (.cons cI (.cons .bool .nil)))) (.cons (.sl cVal) (.cons (.sl cI) (.cons (.sl cGrey) .nil))))))))))))
abbrev mark_New_o0 : U := (.cons cI (.cons .nil (.cons (.cons cI (.cons cI (.cons cI (.cons .bool .nil)))) (.cons cI (.cons .nil (.cons (.cons cI (.cons cI (.cons cI (.cons .bool .nil)))) (.cons (.sl cVal) (.cons (.sl cI) (.cons (.sl cGrey) .nil)))))))))
abbrev mark_New_e0 : U := (.cons .bool (.cons cI (.cons .nil (.cons (.cons cI (.cons cI (.cons cI (.cons .bool .nil)))) .nil))))
def mark_New_s0r (v28 : List Int) (v29 : Int) (v30 : Int) (c0_0 : Int) (c0_1 : Unit) (c0_2 : Int × Int × Int × Bool × Unit) (c80_0 : Int) (c80_1 : Unit) (c80_2 : Int × Int × Int × Bool × Unit) (r48 : List Val) (r128 : List Int) (r368 : List Grey) : Option (SRes mark_New_h0 mark_New_o0 mark_New_e0) :=
 bif decide (v30 < v29) then
  bif decide (0 ≤ v30) then
   bif decide (v30 < (v28.length : Int)) then
    (grey_New (v28.getD v30.toNat 0, ())).bind fun y3 =>
    bif !y3.2.1 then
     some (.fin (.ret (false, 0, (), (0, 0, 0, false, ()), ())))
    else
    bif decide ((r368.length + 1) * 32 ≤ 140737488355328) then
     some (.next (v28, v29, wi64 (v30 + 1), c0_0, c0_1, c0_2, c80_0, c80_1, c80_2, r48, r128, r368 ++ [(y3.1.1, y3.1.2.1, ())], ()))
    else none
   else none
  else none
 else
 some (.fin (.out (c0_0, c0_1, c0_2, c80_0, c80_1, c80_2, r48, r128, r368, ())))
def mark_New_s0 (x : mark_New_h0.T) : Option (SRes mark_New_h0 mark_New_o0 mark_New_e0) := mark_New_s0r x.1 x.2.1 x.2.2.1 x.2.2.2.1 x.2.2.2.2.1 x.2.2.2.2.2.1 x.2.2.2.2.2.2.1 x.2.2.2.2.2.2.2.1 x.2.2.2.2.2.2.2.2.1 x.2.2.2.2.2.2.2.2.2.1 x.2.2.2.2.2.2.2.2.2.2.1 x.2.2.2.2.2.2.2.2.2.2.2.1
def mark_New_l0 (x : mark_New_h0.T) : Option (LRes mark_New_o0 mark_New_e0) := iterL mark_New_s0 9223372036854775808 x
def mark_New_r (a0 : Int) (a1 : List Int) (a2 : List Val) : Option (Marker × Bool × Unit) :=
 (slices_Clone_api_Value (a2, ())).bind fun y1 =>
 (grey_New (a0, ())).bind fun y2 =>
 bif !y2.2.1 then
  some (((0, [], ()), [], [], 0, 0, 0, false, ()), false, ())
 else
 (mark_New_l0 (a1, (a1.length : Int), 0, 0, (), (0, 0, 0, false, ()), y2.1.1, (), ((-1), 0, (-1), false, ()), y1.1, y2.1.2.1, [], ())).bind fun s4 => match s4 with
 | .out s4 =>
  some (((s4.2.2.2.1, s4.2.2.2.2.2.2.2.1, s4.2.2.2.2.1), s4.2.2.2.2.2.2.2.2.1, s4.2.2.2.2.2.2.1, s4.2.2.2.2.2.1), true, ())
 | .ret s4 =>
  some (((s4.2.1, [], s4.2.2.1), [], [], s4.2.2.2.1), s4.1, ())
def mark_New (x : Int × (List Int) × (List Val) × Unit) : Option (Marker × Bool × Unit) := mark_New_r x.1 x.2.1 x.2.2.1
def mark_New_sm : Sum := ⟨(.cons cI (.cons (.sl cI) (.cons (.sl cVal) .nil))), (.cons (.cons (.cons (.d cI) (.cons (.own cI) (.d .nil))) (.cons (.own cGrey) (.cons (.own cVal) (.d (.cons cI (.cons cI (.cons cI (.cons .bool .nil)))))))) (.cons (.d .bool) .nil)), mark_New⟩
def mark_New_L0 : LoopSum := { hc := ⟨[], [6, 8, 28, 29, 30], [(.key 80 [.fld 1], cGrey)], [], [0, 80], [48, 128], 368⟩, h := ⟨[(6, (.pvar 0 [])), (8, (.pvar 80 [])), (28, (.d (.sl cI))), (29, (.d cI)), (30, (.d cI))], [(0, (.cons (.cons (.d cI) (.cons .nilsl (.d .nil))) (.cons .nilsl (.cons .nilsl (.d (.cons cI (.cons cI (.cons cI (.cons .bool .nil))))))))), (80, (.cons (.cons (.d cI) (.cons (.row 128) (.d .nil))) (.cons (.row 368) (.cons (.row 48) (.d (.cons cI (.cons cI (.cons cI (.cons .bool .nil)))))))))], [(48, cVal, true), (128, cI, true), (368, cGrey, true)], 369, false⟩, xid := 0, oc := ⟨[], [6, 8], [(.ptr 8 [.fld 1], cGrey)], [], [0, 80], [48, 128], 368⟩, o := ⟨[(6, (.pvar 0 [])), (8, (.pvar 80 []))], [(0, (.cons (.cons (.d cI) (.cons .nilsl (.d .nil))) (.cons .nilsl (.cons .nilsl (.d (.cons cI (.cons cI (.cons cI (.cons .bool .nil))))))))), (80, (.cons (.cons (.d cI) (.cons (.row 128) (.d .nil))) (.cons (.row 368) (.cons (.row 48) (.d (.cons cI (.cons cI (.cons cI (.cons .bool .nil)))))))))], [(48, cVal, true), (128, cI, true), (368, cGrey, true)], 369, false⟩, rc := ⟨[], [6, 7], [], [], [0], [], 368⟩, r := ⟨[(6, (.pvar 0 [])), (7, (.d .bool))], [(0, (.cons (.cons (.d cI) (.cons .nilsl (.d .nil))) (.cons .nilsl (.cons .nilsl (.d (.cons cI (.cons cI (.cons cI (.cons .bool .nil)))))))))], [], 368, false⟩, F := mark_New_l0 }
def mark_New_c : Ctx := ⟨[(127, slices_Clone_api_Value_sm), (128, grey_New_sm)], [], [⟨8, 106, 0, 0, mark_New_L0⟩]⟩
theorem mark_New_sem : SemOf Tryz.prog 106 mark_New_sm := semC (c := mark_New_c) Tryz.func106 (sc slices_Clone_api_Value_sem (sc grey_New_sem an)) an (ec (aeC [true, true, true, true, true, false, true, false, false] mark_New_s0 Tryz.func106) an) 8
abbrev slices_Concat_h0 : U := (.cons (.sl (.sl cVal)) (.cons cI (.cons (.sl (.sl cVal)) cVal)))
abbrev slices_Concat_o0 : U := (.cons (.sl (.sl cVal)) (.cons cI .nil))
abbrev slices_Concat_e0 : U := .nil
def slices_Concat_s0r (v0 : List (List Val)) (v3 : Int) (v9 : List (List Val)) (v10 : Int) (v11 : Int) : Option (SRes slices_Concat_h0 slices_Concat_o0 slices_Concat_e0) :=
 bif decide (v11 < v10) then
  bif decide (0 ≤ v11) then
   bif decide (v11 < (v9.length : Int)) then
    bif decide ((wi64 (v3 + ((v9.getD v11.toNat []).length : Int))) < 0) then none else
    some (.next (v0, wi64 (v3 + ((v9.getD v11.toNat []).length : Int)), v9, v10, wi64 (v11 + 1), ()))
   else none
  else none
 else
 some (.fin (.out (v0, v3, ())))
def slices_Concat_s0 (x : slices_Concat_h0.T) : Option (SRes slices_Concat_h0 slices_Concat_o0 slices_Concat_e0) := slices_Concat_s0r x.1 x.2.1 x.2.2.1 x.2.2.2.1 x.2.2.2.2.1
def slices_Concat_l0 (x : slices_Concat_h0.T) : Option (LRes slices_Concat_o0 slices_Concat_e0) := iterL slices_Concat_s0 9223372036854775808 x
abbrev slices_Concat_h1 : U := (.cons (.sl (.sl cVal)) (.cons cI (.cons cI (.cons (.sl cVal) .nil))))
abbrev slices_Concat_o1 : U := (.cons (.sl cVal) .nil)
abbrev slices_Concat_e1 : U := .nil
def slices_Concat_s1r (v25 : List (List Val)) (v26 : Int) (v27 : Int) (r576 : List Val) : Option (SRes slices_Concat_h1 slices_Concat_o1 slices_Concat_e1) :=
 bif decide (v27 < v26) then
  bif decide (0 ≤ v27) then
   bif decide (v27 < (v25.length : Int)) then
    bif decide ((r576.length + (v25.getD v27.toNat []).length) * 16 ≤ 140737488355328) then
     some (.next (v25, v26, wi64 (v27 + 1), r576 ++ (v25.getD v27.toNat []), ()))
    else none
   else none
  else none
 else
 some (.fin (.out (r576, ())))
def slices_Concat_s1 (x : slices_Concat_h1.T) : Option (SRes slices_Concat_h1 slices_Concat_o1 slices_Concat_e1) := slices_Concat_s1r x.1 x.2.1 x.2.2.1 x.2.2.2.1
def slices_Concat_l1 (x : slices_Concat_h1.T) : Option (LRes slices_Concat_o1 slices_Concat_e1) := iterL slices_Concat_s1 9223372036854775808 x
def slices_Concat_r (a0 : List (List Val)) : Option ((List Val) × Unit) :=
 (slices_Concat_l0 (a0, 0, a0, (a0.length : Int), 0, ())).bind fun s1 => match s1 with
 | .out s1 =>
  bif decide (s1.2.1 < 0) then none else
  bif decide ((wi64 (s1.2.1 - 0)) > 0) then
   bif decide (0 ≤ (wi64 (wi64 (s1.2.1 - 0)))) then
    bif decide ((wi64 (wi64 (s1.2.1 - 0))).toNat * 16 ≤ 140737488355328) then
     bif decide (0 ≤ ((List.replicate (wi64 (wi64 (s1.2.1 - 0))).toNat ((0, 0, ()) : Val)).length : Int)) then
      (slices_Concat_l1 (s1.1, (s1.1.length : Int), 0, ((List.replicate (wi64 (wi64 (s1.2.1 - 0))).toNat ((0, 0, ()) : Val)).drop 0).take 0, ())).bind fun s2 => match s2 with
      | .out s2 =>
       some (s2.1, ())
      | .ret s2 =>
       none
     else none
    else none
   else none
  else
  (slices_Concat_l1 (s1.1, (s1.1.length : Int), 0, [], ())).bind fun s3 => match s3 with
  | .out s3 =>
   some (s3.1, ())
  | .ret s3 =>
   none
 | .ret s1 =>
  none
def slices_Concat (x : (List (List Val)) × Unit) : Option ((List Val) × Unit) := slices_Concat_r x.1
def slices_Concat_sm : Sum := ⟨(.cons (.sl (.sl cVal)) .nil), (.cons (.own cVal) .nil), slices_Concat⟩
def slices_Concat_L0 : LoopSum := { hc := ⟨[], [0, 3, 9, 10, 11], [], [], [], [], 80⟩, h := ⟨[(0, (.d (.sl (.sl cVal)))), (3, (.d cI)), (9, (.d (.sl (.sl cVal)))), (10, (.d cI)), (11, (.d cI))], [], [], 80, false⟩, xid := 0, oc := ⟨[], [0, 3], [], [], [], [], 80⟩, o := ⟨[(0, (.d (.sl (.sl cVal)))), (3, (.d cI))], [], [], 80, false⟩, rc := ⟨[], [], [], [], [80], [], 80⟩, r := ⟨[], [], [], 80, false⟩, F := slices_Concat_l0 }
def slices_Concat_L1 : LoopSum := { hc := ⟨[], [6, 25, 26, 27], [(.tmp 6, cVal)], [], [], [], 576⟩, h := ⟨[(6, (.row 576)), (25, (.d (.sl (.sl cVal)))), (26, (.d cI)), (27, (.d cI))], [], [(576, cVal, true)], 577, false⟩, xid := 2, oc := ⟨[], [6], [(.tmp 6, cVal)], [], [], [], 576⟩, o := ⟨[(6, (.row 576))], [], [(576, cVal, true)], 577, false⟩, rc := ⟨[], [], [], [], [576], [], 576⟩, r := ⟨[], [], [], 576, false⟩, F := slices_Concat_l1 }
def slices_Concat_c : Ctx := ⟨[], [(129, Tryz.f129)], [⟨8, 107, 0, 0, slices_Concat_L0⟩, ⟨8, 107, 0, 2, slices_Concat_L1⟩]⟩
theorem slices_Concat_sem : SemOf Tryz.prog 107 slices_Concat_sm := semC (c := slices_Concat_c) Tryz.func107 an (fc (flC Tryz.func129) an) (ec (aeC [true, true, false, true, false, false] slices_Concat_s0 Tryz.func107) (ec (aeC [true, true, true, true, false, true, false, false] slices_Concat_s1 Tryz.func107) an)) 8
def snap_list_r (a0 : List Val) : Option ((List Val) × Unit) :=
 some (a0, ())
def snap_list (x : (List Val) × Unit) : Option ((List Val) × Unit) := snap_list_r x.1
def snap_list_sm : Sum := ⟨(.cons (.sl cVal) .nil), (.cons (.d (.sl cVal)) .nil), snap_list⟩
def snap_list_c : Ctx := ⟨[], [], []⟩
theorem snap_list_sem : SemOf Tryz.prog 146 snap_list_sm := semC (c := snap_list_c) Tryz.func146 an an an 8
def snap_Registers_r (a0 : Mut) : Option ((List Val) × Unit) :=
 bif a0.2.1 == 2 then
  (snap_list ([(2, a0.2.2.2.1, ())], ())).bind fun y1 =>
  some (y1.1, ())
 else
 bif a0.2.1 == 3 then
  (snap_list ([a0.2.2.2.2.1], ())).bind fun y2 =>
  some (y2.1, ())
 else
 bif a0.2.1 == 4 then
  (snap_list ([(2, a0.2.2.2.1, ()), a0.2.2.2.2.1], ())).bind fun y3 =>
  some (y3.1, ())
 else
 some ([], ())
def snap_Registers (x : Mut × Unit) : Option ((List Val) × Unit) := snap_Registers_r x.1
def snap_Registers_sm : Sum := ⟨(.cons cMut .nil), (.cons (.d (.sl cVal)) .nil), snap_Registers⟩
def snap_Registers_c : Ctx := ⟨[(146, snap_list_sm)], [], []⟩
theorem snap_Registers_sem : SemOf Tryz.prog 130 snap_Registers_sm := semC (c := snap_Registers_c) Tryz.func130 (sc snap_list_sem an) an an 8
abbrev snap_Held_h0 : U := (.cons (.sl cMut) (.cons cI (.cons cI (.cons (.sl cVal) .nil))))
abbrev snap_Held_o0 : U := (.cons (.sl cVal) .nil)
abbrev snap_Held_e0 : U := .nil
def snap_Held_s0r (v6 : List Mut) (v7 : Int) (v8 : Int) (r80 : List Val) : Option (SRes snap_Held_h0 snap_Held_o0 snap_Held_e0) :=
 bif decide (v8 < v7) then
  bif decide (0 ≤ v8) then
   bif decide (v8 < (v6.length : Int)) then
    bif decide ((r80.length + (v6.getD v8.toNat ([], 0, (0, 0, 0, 0, ()), 0, (0, 0, ()), List.replicate 4 0, ())).1.length) * 16 ≤ 140737488355328) then
     (snap_Registers (v6.getD v8.toNat ([], 0, (0, 0, 0, 0, ()), 0, (0, 0, ()), List.replicate 4 0, ()), ())).bind fun y1 =>
     bif decide (((r80 ++ (v6.getD v8.toNat ([], 0, (0, 0, 0, 0, ()), 0, (0, 0, ()), List.replicate 4 0, ())).1).length + y1.1.length) * 16 ≤ 140737488355328) then
      some (.next (v6, v7, wi64 (v8 + 1), (r80 ++ (v6.getD v8.toNat ([], 0, (0, 0, 0, 0, ()), 0, (0, 0, ()), List.replicate 4 0, ())).1) ++ y1.1, ()))
     else none
    else none
   else none
  else none
 else
 some (.fin (.out (r80, ())))
def snap_Held_s0 (x : snap_Held_h0.T) : Option (SRes snap_Held_h0 snap_Held_o0 snap_Held_e0) := snap_Held_s0r x.1 x.2.1 x.2.2.1 x.2.2.2.1
def snap_Held_l0 (x : snap_Held_h0.T) : Option (LRes snap_Held_o0 snap_Held_e0) := iterL snap_Held_s0 9223372036854775808 x
def snap_Held_r (a0 : List Mut) : Option ((List Val) × Unit) :=
 (snap_Held_l0 (a0, (a0.length : Int), 0, [], ())).bind fun s2 => match s2 with
 | .out s2 =>
  some (s2.1, ())
 | .ret s2 =>
  none
def snap_Held (x : (List Mut) × Unit) : Option ((List Val) × Unit) := snap_Held_r x.1
def snap_Held_sm : Sum := ⟨(.cons (.sl cMut) .nil), (.cons (.own cVal) .nil), snap_Held⟩
def snap_Held_L0 : LoopSum := { hc := ⟨[], [3, 6, 7, 8], [(.tmp 3, cVal)], [], [], [], 80⟩, h := ⟨[(3, (.row 80)), (6, (.d (.sl cMut))), (7, (.d cI)), (8, (.d cI))], [], [(80, cVal, true)], 81, false⟩, xid := 0, oc := ⟨[], [3], [(.tmp 3, cVal)], [], [], [], 80⟩, o := ⟨[(3, (.row 80))], [], [(80, cVal, true)], 81, false⟩, rc := ⟨[], [], [], [], [80], [], 80⟩, r := ⟨[], [], [], 80, false⟩, F := snap_Held_l0 }
def snap_Held_c : Ctx := ⟨[(130, snap_Registers_sm)], [], [⟨8, 108, 0, 0, snap_Held_L0⟩]⟩
theorem snap_Held_sem : SemOf Tryz.prog 108 snap_Held_sm := semC (c := snap_Held_c) Tryz.func108 (sc snap_Registers_sem an) an (ec (aeC [true, true, false, true, false, false] snap_Held_s0 Tryz.func108) an) 8
abbrev snap_Pending_h0 : U := (.cons (.sl cMut) (.cons cI (.cons cI (.cons cHeap (.cons (.sl cVal) .nil)))))
abbrev snap_Pending_o0 : U := (.cons (.sl cVal) .nil)
abbrev snap_Pending_e0 : U := .nil
def snap_Pending_s0r (v10 : List Mut) (v11 : Int) (v12 : Int) (c0 : Heap) (r96 : List Val) : Option (SRes snap_Pending_h0 snap_Pending_o0 snap_Pending_e0) :=
 bif decide (v12 < v11) then
  bif decide (0 ≤ v12) then
   bif decide (v12 < (v10.length : Int)) then
    bif (v10.getD v12.toNat ([], 0, (0, 0, 0, 0, ()), 0, (0, 0, ()), List.replicate 4 0, ())).2.1 == 4 then
     (object_Field (c0, (v10.getD v12.toNat ([], 0, (0, 0, 0, 0, ()), 0, (0, 0, ()), List.replicate 4 0, ())).2.2.2.1, (v10.getD v12.toNat ([], 0, (0, 0, 0, 0, ()), 0, (0, 0, ()), List.replicate 4 0, ())).2.2.1.2.2.1, ())).bind fun y1 =>
     bif decide ((r96.length + 1) * 16 ≤ 140737488355328) then
      some (.next (v10, v11, wi64 (v12 + 1), c0, r96 ++ [(y1.1.1, y1.1.2.1, ())], ()))
     else none
    else
    some (.next (v10, v11, wi64 (v12 + 1), c0, r96, ()))
   else none
  else none
 else
 some (.fin (.out (r96, ())))
def snap_Pending_s0 (x : snap_Pending_h0.T) : Option (SRes snap_Pending_h0 snap_Pending_o0 snap_Pending_e0) := snap_Pending_s0r x.1 x.2.1 x.2.2.1 x.2.2.2.1 x.2.2.2.2.1
def snap_Pending_l0 (x : snap_Pending_h0.T) : Option (LRes snap_Pending_o0 snap_Pending_e0) := iterL snap_Pending_s0 9223372036854775808 x
def snap_Pending_r (a0 : Heap) (a1 : List Mut) : Option ((List Val) × Unit) :=
 (snap_Pending_l0 (a1, (a1.length : Int), 0, a0, [], ())).bind fun s2 => match s2 with
 | .out s2 =>
  some (s2.1, ())
 | .ret s2 =>
  none
def snap_Pending (x : Heap × (List Mut) × Unit) : Option ((List Val) × Unit) := snap_Pending_r x.1 x.2.1
def snap_Pending_sm : Sum := ⟨(.cons cHeap (.cons (.sl cMut) .nil)), (.cons (.own cVal) .nil), snap_Pending⟩
def snap_Pending_L0 : LoopSum := { hc := ⟨[], [2, 5, 10, 11, 12], [(.tmp 5, cVal)], [], [0], [], 96⟩, h := ⟨[(2, (.pvar 0 [])), (5, (.row 96)), (10, (.d (.sl cMut))), (11, (.d cI)), (12, (.d cI))], [(0, (.d cHeap))], [(96, cVal, true)], 97, false⟩, xid := 0, oc := ⟨[], [5], [(.tmp 5, cVal)], [], [], [], 96⟩, o := ⟨[(5, (.row 96))], [], [(96, cVal, true)], 97, false⟩, rc := ⟨[], [], [], [], [96], [], 96⟩, r := ⟨[], [], [], 96, false⟩, F := snap_Pending_l0 }
def snap_Pending_c : Ctx := ⟨[(131, object_Field_sm)], [], [⟨8, 109, 0, 0, snap_Pending_L0⟩]⟩
theorem snap_Pending_sem : SemOf Tryz.prog 109 snap_Pending_sm := semC (c := snap_Pending_c) Tryz.func109 (sc object_Field_sem an) an (ec (aeC [true, true, false, true, false, false] snap_Pending_s0 Tryz.func109) an) 8
def snap_Begin_r (a0 : Rep) (a1 : Heap) (a2 : List Mut) : Option (Heap × Marker × Unit) :=
 (slices_Repeat ([a0.2.2.2.2.1], (a2.length : Int), ())).bind fun y1 =>
 (snap_Held (a2, ())).bind fun y2 =>
 (snap_Pending (a1, a2, ())).bind fun y3 =>
 (slices_Concat ([y2.1, y3.1], ())).bind fun y4 =>
 (mark_New (a0.2.2.2.1, y1.1, y4.1, ())).bind fun y5 =>
 (slices_Clone_uint64 (a1.1, ())).bind fun y6 =>
 (slices_Clone_api_Span (a1.2.1, ())).bind fun y7 =>
 some ((y6.1, y7.1, !a1.2.2.1, a1.2.2.2), ((y5.1.1.1, y5.1.1.2.1, y5.1.1.2.2), y5.1.2.1, y5.1.2.2.1, y5.1.2.2.2), ())
def snap_Begin (x : Rep × Heap × (List Mut) × Unit) : Option (Heap × Marker × Unit) := snap_Begin_r x.1 x.2.1 x.2.2.1
def snap_Begin_sm : Sum := ⟨(.cons cRep (.cons cHeap (.cons (.sl cMut) .nil))), (.cons (.cons (.own (.int .u64)) (.cons (.own cSpan) (.d (.cons .bool .nil)))) (.cons (.cons (.cons (.d cI) (.cons (.own cI) (.d .nil))) (.cons (.own cGrey) (.cons (.own cVal) (.d (.cons cI (.cons cI (.cons cI (.cons .bool .nil)))))))) .nil)), snap_Begin⟩
def snap_Begin_c : Ctx := ⟨[(61, slices_Clone_api_Span_sm), (88, slices_Clone_uint64_sm), (105, slices_Repeat_sm), (106, mark_New_sm), (107, slices_Concat_sm), (108, snap_Held_sm), (109, snap_Pending_sm)], [], []⟩
theorem snap_Begin_sem : SemOf Tryz.prog 84 snap_Begin_sm := semC (c := snap_Begin_c) Tryz.func84 (sc slices_Clone_api_Span_sem (sc slices_Clone_uint64_sem (sc slices_Repeat_sem (sc mark_New_sem (sc slices_Concat_sem (sc snap_Held_sem (sc snap_Pending_sem an))))))) an an 8
def cycle_idle_r (a0 : Wrld) : Option (Wrld × Int × Unit) :=
 bif !a0.2.2.2.2.2.1 then
  some (a0, 0, ())
 else
 (snap_Begin (a0.1, a0.2.1, a0.2.2.1, ())).bind fun y1 =>
 some ((a0.1, (y1.1.1, y1.1.2.1, y1.1.2.2), a0.2.2.1, ((y1.2.1.1.1, y1.2.1.1.2.1, y1.2.1.1.2.2), y1.2.1.2.1, y1.2.1.2.2.1, y1.2.1.2.2.2), 1, false, wi64 (a0.2.2.2.2.2.2.1 + 1), a0.2.2.2.2.2.2.2), 3, ())
def cycle_idle (x : Wrld × Unit) : Option (Wrld × Int × Unit) := cycle_idle_r x.1
def cycle_idle_sm : Sum := ⟨(.cons cWrld .nil), (.cons (.d cWrld) (.cons (.d cI) .nil)), cycle_idle⟩
def cycle_idle_c : Ctx := ⟨[(84, snap_Begin_sm)], [], []⟩
theorem cycle_idle_sem : SemOf Tryz.prog 56 cycle_idle_sm := semC (c := cycle_idle_c) Tryz.func56 (sc snap_Begin_sem an) an an 8
def sweep_Begin (_ : Heap × Unit) : Option (Heap × Unit) := none
def sweep_Begin_sm : Sum := ⟨(.cons cHeap .nil), (.cons (.d cHeap) .nil), sweep_Begin⟩
theorem sweep_Begin_sem : SemOf Tryz.prog 60 sweep_Begin_sm := semDead Tryz.func60 (fun _ => rfl)
def mark_Step (_ : Heap × Marker × Unit) : Option (Heap × Marker × Bool × Unit) := none
def mark_Step_sm : Sum := ⟨(.cons cHeap (.cons cMarker .nil)), (.cons (.d cHeap) (.cons (.d cMarker) (.cons (.d .bool) .nil))), mark_Step⟩
theorem mark_Step_sem : SemOf Tryz.prog 85 mark_Step_sm := semDead Tryz.func85 (fun _ => rfl)
abbrev slices_ConcatR_h0 : U := (.cons (.sl (.sl cRep)) (.cons cI (.cons (.sl (.sl cRep)) cVal)))
abbrev slices_ConcatR_o0 : U := (.cons (.sl (.sl cRep)) (.cons cI .nil))
abbrev slices_ConcatR_e0 : U := .nil
def slices_ConcatR_s0r (v0 : List (List Rep)) (v3 : Int) (v9 : List (List Rep)) (v10 : Int) (v11 : Int) : Option (SRes slices_ConcatR_h0 slices_ConcatR_o0 slices_ConcatR_e0) :=
 bif decide (v11 < v10) then
  bif decide (0 ≤ v11) then
   bif decide (v11 < (v9.length : Int)) then
    bif decide ((wi64 (v3 + ((v9.getD v11.toNat []).length : Int))) < 0) then none else
    some (.next (v0, wi64 (v3 + ((v9.getD v11.toNat []).length : Int)), v9, v10, wi64 (v11 + 1), ()))
   else none
  else none
 else
 some (.fin (.out (v0, v3, ())))
def slices_ConcatR_s0 (x : slices_ConcatR_h0.T) : Option (SRes slices_ConcatR_h0 slices_ConcatR_o0 slices_ConcatR_e0) := slices_ConcatR_s0r x.1 x.2.1 x.2.2.1 x.2.2.2.1 x.2.2.2.2.1
def slices_ConcatR_l0 (x : slices_ConcatR_h0.T) : Option (LRes slices_ConcatR_o0 slices_ConcatR_e0) := iterL slices_ConcatR_s0 9223372036854775808 x
abbrev slices_ConcatR_h1 : U := (.cons (.sl (.sl cRep)) (.cons cI (.cons cI (.cons (.sl cRep) .nil))))
abbrev slices_ConcatR_o1 : U := (.cons (.sl cRep) .nil)
abbrev slices_ConcatR_e1 : U := .nil
def slices_ConcatR_s1r (v25 : List (List Rep)) (v26 : Int) (v27 : Int) (r576 : List Rep) : Option (SRes slices_ConcatR_h1 slices_ConcatR_o1 slices_ConcatR_e1) :=
 bif decide (v27 < v26) then
  bif decide (0 ≤ v27) then
   bif decide (v27 < (v25.length : Int)) then
    bif decide ((r576.length + (v25.getD v27.toNat []).length) * 40 ≤ 140737488355328) then
     some (.next (v25, v26, wi64 (v27 + 1), r576 ++ (v25.getD v27.toNat []), ()))
    else none
   else none
  else none
 else
 some (.fin (.out (r576, ())))
def slices_ConcatR_s1 (x : slices_ConcatR_h1.T) : Option (SRes slices_ConcatR_h1 slices_ConcatR_o1 slices_ConcatR_e1) := slices_ConcatR_s1r x.1 x.2.1 x.2.2.1 x.2.2.2.1
def slices_ConcatR_l1 (x : slices_ConcatR_h1.T) : Option (LRes slices_ConcatR_o1 slices_ConcatR_e1) := iterL slices_ConcatR_s1 9223372036854775808 x
def slices_ConcatR_r (a0 : List (List Rep)) : Option ((List Rep) × Unit) :=
 (slices_ConcatR_l0 (a0, 0, a0, (a0.length : Int), 0, ())).bind fun s1 => match s1 with
 | .out s1 =>
  bif decide (s1.2.1 < 0) then none else
  bif decide ((wi64 (s1.2.1 - 0)) > 0) then
   bif decide (0 ≤ (wi64 (wi64 (s1.2.1 - 0)))) then
    bif decide ((wi64 (wi64 (s1.2.1 - 0))).toNat * 40 ≤ 140737488355328) then
     bif decide (0 ≤ ((List.replicate (wi64 (wi64 (s1.2.1 - 0))).toNat ((0, 0, 0, 0, 0, ()) : Rep)).length : Int)) then
      (slices_ConcatR_l1 (s1.1, (s1.1.length : Int), 0, ((List.replicate (wi64 (wi64 (s1.2.1 - 0))).toNat ((0, 0, 0, 0, 0, ()) : Rep)).drop 0).take 0, ())).bind fun s2 => match s2 with
      | .out s2 =>
       some (s2.1, ())
      | .ret s2 =>
       none
     else none
    else none
   else none
  else
  (slices_ConcatR_l1 (s1.1, (s1.1.length : Int), 0, [], ())).bind fun s3 => match s3 with
  | .out s3 =>
   some (s3.1, ())
  | .ret s3 =>
   none
 | .ret s1 =>
  none
def slices_ConcatR (x : (List (List Rep)) × Unit) : Option ((List Rep) × Unit) := slices_ConcatR_r x.1
def slices_ConcatR_sm : Sum := ⟨(.cons (.sl (.sl cRep)) .nil), (.cons (.own cRep) .nil), slices_ConcatR⟩
def slices_ConcatR_L0 : LoopSum := { hc := ⟨[], [0, 3, 9, 10, 11], [], [], [], [], 80⟩, h := ⟨[(0, (.d (.sl (.sl cRep)))), (3, (.d cI)), (9, (.d (.sl (.sl cRep)))), (10, (.d cI)), (11, (.d cI))], [], [], 80, false⟩, xid := 0, oc := ⟨[], [0, 3], [], [], [], [], 80⟩, o := ⟨[(0, (.d (.sl (.sl cRep)))), (3, (.d cI))], [], [], 80, false⟩, rc := ⟨[], [], [], [], [80], [], 80⟩, r := ⟨[], [], [], 80, false⟩, F := slices_ConcatR_l0 }
def slices_ConcatR_L1 : LoopSum := { hc := ⟨[], [6, 25, 26, 27], [(.tmp 6, cRep)], [], [], [], 576⟩, h := ⟨[(6, (.row 576)), (25, (.d (.sl (.sl cRep)))), (26, (.d cI)), (27, (.d cI))], [], [(576, cRep, true)], 577, false⟩, xid := 2, oc := ⟨[], [6], [(.tmp 6, cRep)], [], [], [], 576⟩, o := ⟨[(6, (.row 576))], [], [(576, cRep, true)], 577, false⟩, rc := ⟨[], [], [], [], [576], [], 576⟩, r := ⟨[], [], [], 576, false⟩, F := slices_ConcatR_l1 }
def slices_ConcatR_c : Ctx := ⟨[], [(116, Tryz.f116)], [⟨8, 86, 0, 0, slices_ConcatR_L0⟩, ⟨8, 86, 0, 2, slices_ConcatR_L1⟩]⟩
theorem slices_ConcatR_sem : SemOf Tryz.prog 86 slices_ConcatR_sm := semC (c := slices_ConcatR_c) Tryz.func86 an (fc (flC Tryz.func116) an) (ec (aeC [true, true, false, true, false, false] slices_ConcatR_s0 Tryz.func86) (ec (aeC [true, true, true, true, false, true, false, false] slices_ConcatR_s1 Tryz.func86) an)) 8
def cycle_Tell (_ : Wrld × Unit) : Option (Rep × Unit) := none
def cycle_Tell_sm : Sum := ⟨(.cons cWrld .nil), (.cons (.d cRep) .nil), cycle_Tell⟩
theorem cycle_Tell_sem : SemOf Tryz.prog 87 cycle_Tell_sm := semDead Tryz.func87 (fun _ => rfl)
def cycle_marking_r (a0 : Wrld) : Option (Wrld × Int × Unit) :=
 (mark_Step (a0.2.1, a0.2.2.2.1, ())).bind fun y1 =>
 bif !y1.2.2.1 then
  some ((a0.1, y1.1, a0.2.2.1, y1.2.1, a0.2.2.2.2), 1, ())
 else
 (cycle_Tell (a0, ())).bind fun y2 =>
 (slices_ConcatR ([a0.2.2.2.2.2.2.2.1, [y2.1]], ())).bind fun y3 =>
 (sweep_Begin (a0.2.1, ())).bind fun y4 =>
 some ((a0.1, y4.1, a0.2.2.1, ((0, [], ()), [], [], 0, 0, 0, false, ()), 2, a0.2.2.2.2.2.1, a0.2.2.2.2.2.2.1, y3.1, a0.2.2.2.2.2.2.2.2), 4, ())
def cycle_marking (x : Wrld × Unit) : Option (Wrld × Int × Unit) := cycle_marking_r x.1
def cycle_marking_sm : Sum := ⟨(.cons cWrld .nil), (.cons (.d cWrld) (.cons (.d cI) .nil)), cycle_marking⟩
def cycle_marking_c : Ctx := ⟨[(60, sweep_Begin_sm), (85, mark_Step_sm), (86, slices_ConcatR_sm), (87, cycle_Tell_sm)], [], []⟩
theorem cycle_marking_sem : SemOf Tryz.prog 57 cycle_marking_sm := semC (c := cycle_marking_c) Tryz.func57 (sc sweep_Begin_sem (sc mark_Step_sem (sc slices_ConcatR_sem (sc cycle_Tell_sem an)))) an an 8
def cycle_phases_r  : Option ((List (Int × Nat × Unit)) × Unit) :=
 some ([(0, 57, ()), (1, 58, ()), (2, 28, ())], ())
def cycle_phases (x : Unit) : Option ((List (Int × Nat × Unit)) × Unit) := cycle_phases_r 
def cycle_phases_sm : Sum := ⟨.nil, (.cons (.omap .fn) .nil), cycle_phases⟩
def cycle_phases_c : Ctx := ⟨[], [], []⟩
theorem cycle_phases_sem : SemOf Tryz.prog 40 cycle_phases_sm := semC (c := cycle_phases_c) Tryz.func40 an an an 8
def cycle_Marker_r (a0 : Wrld) : Option (Wrld × Int × Unit) :=
 bif 0 == a0.2.2.2.2.1 then
  (cycle_idle (a0, ())).bind fun y1 =>
  some (y1.1, y1.2.1, ())
 else
 bif 1 == a0.2.2.2.2.1 then
  (cycle_marking (a0, ())).bind fun y2 =>
  some (y2.1, y2.2.1, ())
 else
 bif 2 == a0.2.2.2.2.1 then
  (cycle_Sweeper (a0, ())).bind fun y3 =>
  some (y3.1, y3.2.1, ())
 else
 some (a0, 0, ())
def cycle_Marker (x : Wrld × Unit) : Option (Wrld × Int × Unit) := cycle_Marker_r x.1
def cycle_Marker_sm : Sum := ⟨(.cons cWrld .nil), (.cons (.d cWrld) (.cons (.d cI) .nil)), cycle_Marker⟩
def cycle_Marker_c : Ctx := ⟨[(27, cycle_Sweeper_sm), (40, cycle_phases_sm), (56, cycle_idle_sm), (57, cycle_marking_sm)], [], []⟩
theorem cycle_Marker_sem : SemOf Tryz.prog 26 cycle_Marker_sm := semC (c := cycle_Marker_c) Tryz.func26 (sc cycle_Sweeper_sem (sc cycle_phases_sem (sc cycle_idle_sem (sc cycle_marking_sem an)))) an an 8
def world_whose_0_r (a0 : Wrld) (a1 : Int × (Int × Int × Val) × Unit) : Option (Unit × Unit) :=
 bif a1.1 == (-1) then
  some ((), ())
 else
 bif a1.1 == (-2) then none else
 bif decide (a1.1 ≥ 0) then
  bif decide (a1.1 < (a0.2.2.1.length : Int)) then none else
  none
 else none
def world_whose_0 (x : Wrld × (Int × (Int × Int × Val) × Unit) × Unit) : Option (Unit × Unit) := world_whose_0_r x.1 x.2.1
def world_whose_0_sm : Sum := ⟨(.cons cWrld (.cons (.cons cI (.cons (.cons cI (.cons cI cVal)) .nil)) .nil)), (.cons (.ifc 89 [26]) .nil), world_whose_0⟩
def world_whose_0_c : Ctx := ⟨[], [], []⟩
theorem world_whose_0_sem : SemOf Tryz.prog 14 world_whose_0_sm := semC (c := world_whose_0_c) Tryz.func14 an an an 8
def world_whose_1_r (a0 : Wrld) (a1 : Int × (Int × Int × Val) × Unit) : Option (Unit × Unit) :=
 bif a1.1 == (-1) then none else
 bif a1.1 == (-2) then
  some ((), ())
 else
 bif decide (a1.1 ≥ 0) then
  bif decide (a1.1 < (a0.2.2.1.length : Int)) then none else
  none
 else none
def world_whose_1 (x : Wrld × (Int × (Int × Int × Val) × Unit) × Unit) : Option (Unit × Unit) := world_whose_1_r x.1 x.2.1
def world_whose_1_sm : Sum := ⟨(.cons cWrld (.cons (.cons cI (.cons (.cons cI (.cons cI cVal)) .nil)) .nil)), (.cons (.ifc 89 [27]) .nil), world_whose_1⟩
def world_whose_1_c : Ctx := ⟨[], [], []⟩
theorem world_whose_1_sem : SemOf Tryz.prog 14 world_whose_1_sm := semC (c := world_whose_1_c) Tryz.func14 an an an 8
def world_whose_2_r (a0 : Wrld) (a1 : Int × (Int × Int × Val) × Unit) : Option (Unit × Unit) :=
 bif a1.1 == (-1) then none else
 bif a1.1 == (-2) then none else
 bif decide (a1.1 ≥ 0) then
  bif decide (a1.1 < (a0.2.2.1.length : Int)) then
   some ((), ())
  else none
 else none
def world_whose_2 (x : Wrld × (Int × (Int × Int × Val) × Unit) × Unit) : Option (Unit × Unit) := world_whose_2_r x.1 x.2.1
def world_whose_2_sm : Sum := ⟨(.cons cWrld (.cons (.cons cI (.cons (.cons cI (.cons cI cVal)) .nil)) .nil)), (.cons (.ifc 91 []) .nil), world_whose_2⟩
def world_whose_2_c : Ctx := ⟨[], [], []⟩
theorem world_whose_2_sem : SemOf Tryz.prog 14 world_whose_2_sm := semC (c := world_whose_2_c) Tryz.func14 an an an 8
def world_whose_3_r (a0 : Wrld) (a1 : Int × (Int × Int × Val) × Unit) : Option (Unit × Unit) :=
 bif a1.1 == (-1) then none else
 bif a1.1 == (-2) then none else
 bif decide (a1.1 ≥ 0) then
  bif decide (a1.1 < (a0.2.2.1.length : Int)) then none else
  some ((), ())
 else
 some ((), ())
def world_whose_3 (x : Wrld × (Int × (Int × Int × Val) × Unit) × Unit) : Option (Unit × Unit) := world_whose_3_r x.1 x.2.1
def world_whose_3_sm : Sum := ⟨(.cons cWrld (.cons (.cons cI (.cons (.cons cI (.cons cI cVal)) .nil)) .nil)), (.cons (.ifc 92 []) .nil), world_whose_3⟩
def world_whose_3_c : Ctx := ⟨[], [], []⟩
theorem world_whose_3_sem : SemOf Tryz.prog 14 world_whose_3_sm := semC (c := world_whose_3_c) Tryz.func14 an an an 8
def world_Pick_0_r (a0 : Wrld) (a1 : Int × (Int × Int × Val) × Unit) : Option (Wrld × (Int × Int × Int × Val × Unit) × Unit) :=
 (world_whose_0 (a0, a1, ())).bind fun y1 =>
 (cycle_Marker (a0, ())).bind fun y2 =>
 some (y2.1, (a1.1, y2.2.1, 0, (0, 0, ()), ()), ())
def world_Pick_0 (x : Wrld × (Int × (Int × Int × Val) × Unit) × Unit) : Option (Wrld × (Int × Int × Int × Val × Unit) × Unit) := world_Pick_0_r x.1 x.2.1
def world_Pick_0_sm : Sum := ⟨(.cons cWrld (.cons (.cons cI (.cons (.cons cI (.cons cI cVal)) .nil)) .nil)), (.cons (.d cWrld) (.cons (.d (.cons cI (.cons cI (.cons cI (.cons cVal .nil))))) .nil)), world_Pick_0⟩
def world_Pick_0_c : Ctx := ⟨[(14, world_whose_0_sm), (26, cycle_Marker_sm)], [(196, Tryz.f196)], []⟩
theorem world_Pick_0_sem : SemOf Tryz.prog 7 world_Pick_0_sm := semC (c := world_Pick_0_c) Tryz.func7 (sc world_whose_0_sem (sc cycle_Marker_sem an)) (fc (flC Tryz.func196) an) an 8
def world_Pick_1_r (a0 : Wrld) (a1 : Int × (Int × Int × Val) × Unit) : Option (Wrld × (Int × Int × Int × Val × Unit) × Unit) :=
 (world_whose_1 (a0, a1, ())).bind fun y1 =>
 (cycle_Sweeper (a0, ())).bind fun y2 =>
 some (y2.1, (a1.1, y2.2.1, 0, (0, 0, ()), ()), ())
def world_Pick_1 (x : Wrld × (Int × (Int × Int × Val) × Unit) × Unit) : Option (Wrld × (Int × Int × Int × Val × Unit) × Unit) := world_Pick_1_r x.1 x.2.1
def world_Pick_1_sm : Sum := ⟨(.cons cWrld (.cons (.cons cI (.cons (.cons cI (.cons cI cVal)) .nil)) .nil)), (.cons (.d cWrld) (.cons (.d (.cons cI (.cons cI (.cons cI (.cons cVal .nil))))) .nil)), world_Pick_1⟩
def world_Pick_1_c : Ctx := ⟨[(14, world_whose_1_sm), (27, cycle_Sweeper_sm)], [(196, Tryz.f196)], []⟩
theorem world_Pick_1_sem : SemOf Tryz.prog 7 world_Pick_1_sm := semC (c := world_Pick_1_c) Tryz.func7 (sc world_whose_1_sem (sc cycle_Sweeper_sem an)) (fc (flC Tryz.func196) an) an 8
def world_Pick_2_r (a0 : Wrld) (a1 : Int × (Int × Int × Val) × Unit) : Option (Wrld × (Int × Int × Int × Val × Unit) × Unit) :=
 (world_whose_2 (a0, a1, ())).bind fun y1 =>
 (mut_Turn (a0, a1.1, a1.2.1, ())).bind fun y2 =>
 some ((y2.1.1, y2.1.2.1, y2.1.2.2.1, y2.1.2.2.2), (y2.2.1.1, y2.2.1.2.1, y2.2.1.2.2.1, y2.2.1.2.2.2.1, ()), ())
def world_Pick_2 (x : Wrld × (Int × (Int × Int × Val) × Unit) × Unit) : Option (Wrld × (Int × Int × Int × Val × Unit) × Unit) := world_Pick_2_r x.1 x.2.1
def world_Pick_2_sm : Sum := ⟨(.cons cWrld (.cons (.cons cI (.cons (.cons cI (.cons cI cVal)) .nil)) .nil)), (.cons (.d cWrld) (.cons (.d (.cons cI (.cons cI (.cons cI (.cons cVal .nil))))) .nil)), world_Pick_2⟩
def world_Pick_2_c : Ctx := ⟨[(14, world_whose_2_sm), (198, mut_Turn_sm)], [(197, Tryz.f197)], []⟩
theorem world_Pick_2_sem : SemOf Tryz.prog 7 world_Pick_2_sm := semC (c := world_Pick_2_c) Tryz.func7 (sc world_whose_2_sem (sc mut_Turn_sem an)) (fc (flC Tryz.func197) an) an 8
def world_Pick_3_r (a0 : Wrld) (a1 : Int × (Int × Int × Val) × Unit) : Option (Wrld × (Int × Int × Int × Val × Unit) × Unit) :=
 (world_whose_3 (a0, a1, ())).bind fun y1 =>
 some (a0, (a1.1, 0, 1, (0, 0, ()), ()), ())
def world_Pick_3 (x : Wrld × (Int × (Int × Int × Val) × Unit) × Unit) : Option (Wrld × (Int × Int × Int × Val × Unit) × Unit) := world_Pick_3_r x.1 x.2.1
def world_Pick_3_sm : Sum := ⟨(.cons cWrld (.cons (.cons cI (.cons (.cons cI (.cons cI cVal)) .nil)) .nil)), (.cons (.d cWrld) (.cons (.d (.cons cI (.cons cI (.cons cI (.cons cVal .nil))))) .nil)), world_Pick_3⟩
def world_Pick_3_c : Ctx := ⟨[(14, world_whose_3_sm)], [(251, Tryz.f251)], []⟩
theorem world_Pick_3_sem : SemOf Tryz.prog 7 world_Pick_3_sm := semC (c := world_Pick_3_c) Tryz.func7 (sc world_whose_3_sem an) (fc (flC Tryz.func251) an) an 8
def world_Pick (x : Wrld × (Int × (Int × Int × Val) × Unit) × Unit) : Option (Wrld × (Int × Int × Int × Val × Unit) × Unit) := orE (world_Pick_0 x) (orE (world_Pick_1 x) (orE (world_Pick_2 x) (world_Pick_3 x)))
def world_Pick_sm : Sum := ⟨(.cons cWrld (.cons (.cons cI (.cons (.cons cI (.cons cI cVal)) .nil)) .nil)), (.cons (.d cWrld) (.cons (.d (.cons cI (.cons cI (.cons cI (.cons cVal .nil))))) .nil)), world_Pick⟩
theorem world_Pick_sem : SemOf Tryz.prog 7 world_Pick_sm := semOr world_Pick_0_sem (semOr world_Pick_1_sem (semOr world_Pick_2_sem (world_Pick_3_sem)))
abbrev world_Run_h0 : U := (.cons (.sl (.cons cI (.cons (.cons cI (.cons cI cVal)) .nil))) (.cons cI (.cons cI (.cons cWrld (.cons cRep (.cons (.cons .bool .nil) (.cons cI (.cons .nil (.cons (.cons cI (.cons cI (.cons cI (.cons .bool .nil)))) (.cons cI (.cons .bool (.cons cI (.cons .nil (.cons cWrld (.cons (.sl (.cons cI (.cons cI (.cons cI (.cons cVal .nil))))) .nil)))))))))))))))
abbrev world_Run_o0 : U := (.cons cWrld (.cons cRep (.cons (.cons .bool .nil) (.cons cI (.cons .nil (.cons (.cons cI (.cons cI (.cons cI (.cons .bool .nil)))) (.cons cI (.cons .bool (.cons cI (.cons .nil (.cons (.sl (.cons cI (.cons cI (.cons cI (.cons cVal .nil))))) .nil)))))))))))
abbrev world_Run_e0 : U := .nil
def world_Run_s0r (v8 : List (Int × (Int × Int × Val) × Unit)) (v9 : Int) (v10 : Int) (c0 : Wrld) (c16_0 : Rep) (c16_1 : Bool × Unit) (c16_2 : Int) (c16_3 : Unit) (c16_4 : Int × Int × Int × Bool × Unit) (c16_5 : Int) (c16_6 : Bool) (c16_7 : Int) (c16_8 : Unit) (c112 : Wrld) (r240 : List (Int × Int × Int × Val × Unit)) : Option (SRes world_Run_h0 world_Run_o0 world_Run_e0) :=
 bif decide (v10 < v9) then
  bif decide (0 ≤ v10) then
   bif decide (v10 < (v8.length : Int)) then
    (world_Pick (c112, v8.getD v10.toNat (0, (0, 0, 0, 0, ()), ()), ())).bind fun y1 =>
    bif decide ((r240.length + 1) * 40 ≤ 140737488355328) then
     some (.next (v8, v9, wi64 (v10 + 1), y1.1, c16_0, c16_1, c16_2, c16_3, c16_4, c16_5, c16_6, c16_7, c16_8, y1.1, r240 ++ [y1.2.1], ()))
    else none
   else none
  else none
 else
 some (.fin (.out (c0, c16_0, c16_1, c16_2, c16_3, c16_4, c16_5, c16_6, c16_7, c16_8, r240, ())))
def world_Run_s0 (x : world_Run_h0.T) : Option (SRes world_Run_h0 world_Run_o0 world_Run_e0) := world_Run_s0r x.1 x.2.1 x.2.2.1 x.2.2.2.1 x.2.2.2.2.1 x.2.2.2.2.2.1 x.2.2.2.2.2.2.1 x.2.2.2.2.2.2.2.1 x.2.2.2.2.2.2.2.2.1 x.2.2.2.2.2.2.2.2.2.1 x.2.2.2.2.2.2.2.2.2.2.1 x.2.2.2.2.2.2.2.2.2.2.2.1 x.2.2.2.2.2.2.2.2.2.2.2.2.1 x.2.2.2.2.2.2.2.2.2.2.2.2.2.1 x.2.2.2.2.2.2.2.2.2.2.2.2.2.2.1
def world_Run_l0 (x : world_Run_h0.T) : Option (LRes world_Run_o0 world_Run_e0) := iterL world_Run_s0 9223372036854775808 x
def world_Run_r (a0 : Wrld) (a1 : List (Int × (Int × Int × Val) × Unit)) : Option (Wrld × (List (Int × Int × Int × Val × Unit)) × Unit) :=
 (world_Run_l0 (a1, (a1.length : Int), 0, a0, (0, 0, 0, 0, 0, ()), (false, ()), 0, (), (0, 0, 0, false, ()), 0, false, 0, (), a0, [], ())).bind fun s2 => match s2 with
 | .out s2 =>
  some (s2.1, s2.2.2.2.2.2.2.2.2.2.2.1, ())
 | .ret s2 =>
  none
def world_Run (x : Wrld × (List (Int × (Int × Int × Val) × Unit)) × Unit) : Option (Wrld × (List (Int × Int × Int × Val × Unit)) × Unit) := world_Run_r x.1 x.2.1
def world_Run_sm : Sum := ⟨(.cons cWrld (.cons (.sl (.cons cI (.cons (.cons cI (.cons cI cVal)) .nil))) .nil)), (.cons (.d cWrld) (.cons (.own (.cons cI (.cons cI (.cons cI (.cons cVal .nil))))) .nil)), world_Run⟩
def world_Run_L0 : LoopSum := { hc := ⟨[], [0, 2, 8, 9, 10], [(.key 48 [], (.cons cI (.cons cI (.cons cI (.cons cVal .nil)))))], [], [0, 16, 48, 112], [], 240⟩, h := ⟨[(0, (.fn 8 (.cons (.pvar 0 []) (.cons (.pvar 48 []) .nil)) .yld)), (2, (.pvar 112 [])), (8, (.d (.sl (.cons cI (.cons (.cons cI (.cons cI cVal)) .nil))))), (9, (.d cI)), (10, (.d cI))], [(0, (.d cWrld)), (16, (.cons (.d cRep) (.cons (.cons .nilsl (.cons .nilsl (.d (.cons .bool .nil)))) (.cons .nilsl (.cons (.cons (.cons (.d cI) (.cons .nilsl (.d .nil))) (.cons .nilsl (.cons .nilsl (.d (.cons cI (.cons cI (.cons cI (.cons .bool .nil)))))))) (.cons (.d cI) (.cons (.d .bool) (.cons (.d cI) (.cons .nilsl (.d .nil)))))))))), (48, (.row 240)), (112, (.d cWrld))], [(240, (.cons cI (.cons cI (.cons cI (.cons cVal .nil)))), true)], 241, false⟩, xid := 0, oc := ⟨[], [], [(.key 48 [], (.cons cI (.cons cI (.cons cI (.cons cVal .nil)))))], [], [0, 16, 48], [], 240⟩, o := ⟨[], [(0, (.d cWrld)), (16, (.cons (.d cRep) (.cons (.cons .nilsl (.cons .nilsl (.d (.cons .bool .nil)))) (.cons .nilsl (.cons (.cons (.cons (.d cI) (.cons .nilsl (.d .nil))) (.cons .nilsl (.cons .nilsl (.d (.cons cI (.cons cI (.cons cI (.cons .bool .nil)))))))) (.cons (.d cI) (.cons (.d .bool) (.cons (.d cI) (.cons .nilsl (.d .nil)))))))))), (48, (.row 240))], [(240, (.cons cI (.cons cI (.cons cI (.cons cVal .nil)))), true)], 241, false⟩, rc := ⟨[], [], [], [], [240], [], 240⟩, r := ⟨[], [], [], 240, false⟩, F := world_Run_l0 }
def world_Run_c : Ctx := ⟨[(7, world_Pick_sm)], [(8, Tryz.f8), (15, Tryz.f15), (28, Tryz.f28)], [⟨7, 28, 192, 0, world_Run_L0⟩]⟩
theorem world_Run_sem : SemOf Tryz.prog 8 world_Run_sm := semC (c := world_Run_c) Tryz.func8 (sc world_Pick_sem an) (fc (flC Tryz.func8 (hG := rng_some [2, 6] (by kernel_rfl) (by kernel_rfl))) (fc (flC Tryz.func15) (fc (flC Tryz.func28) an))) (ec (aeC [true, false, false] world_Run_s0 Tryz.func28) an) 8 (hG := rng_some [2, 6] (by kernel_rfl) (by kernel_rfl))
end
end Go.Proofs.YtdokfjkihjkcmaaGreatDoor.Den
