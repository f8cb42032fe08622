/- What functions come to. Printed by a program of this session. -/
import Derived.Test.YtpabbpncacnnfaaGreatDoorDenF0
namespace Go.Proofs.YtpabbpncacnnfaaGreatDoor.Den
open Go
set_option maxRecDepth 100000
set_option linter.unusedVariables false
noncomputable section
abbrev play_Decode_h0 : U := (.cons cI (.cons cI (.cons (.sl cI) (.cons cI (.cons (.sl (.cons cI (.cons (.cons cI (.cons cI cVal)) .nil))) .nil)))))
abbrev play_Decode_o0 : U := (.cons (.sl (.cons cI (.cons (.cons cI (.cons cI cVal)) .nil))) .nil)
abbrev play_Decode_e0 : U := .nil
def play_Decode_s0r (v4 : Int) (c0 : Int) (c80 : List Int) (c96 : Int) (r208 : List (Int × (Int × Int × Val) × Unit)) : Option (SRes play_Decode_h0 play_Decode_o0 play_Decode_e0) :=
 bif decide (v4 < (c80.length : Int)) then
  bif decide (0 ≤ v4) then
   bif decide (v4 ≤ (c80.length : Int)) then
    bif decide ((c80.length : Int) ≤ (c80.length : Int)) then
     bif (wi64 (v4 + (bif decide ((((c80.drop v4.toNat).take ((c80.length : Int).toNat - v4.toNat)).length : Int) < c96) then (((c80.drop v4.toNat).take ((c80.length : Int).toNat - v4.toNat)).length : Int) else c96))) == (wi64 (v4 + (bif decide ((((c80.drop v4.toNat).take ((c80.length : Int).toNat - v4.toNat)).length : Int) < c96) then (((c80.drop v4.toNat).take ((c80.length : Int).toNat - v4.toNat)).length : Int) else c96))) then
      bif decide (0 ≤ v4) then
       bif decide (v4 ≤ (wi64 (v4 + (bif decide ((((c80.drop v4.toNat).take ((c80.length : Int).toNat - v4.toNat)).length : Int) < c96) then (((c80.drop v4.toNat).take ((c80.length : Int).toNat - v4.toNat)).length : Int) else c96)))) then
        bif decide ((wi64 (v4 + (bif decide ((((c80.drop v4.toNat).take ((c80.length : Int).toNat - v4.toNat)).length : Int) < c96) then (((c80.drop v4.toNat).take ((c80.length : Int).toNat - v4.toNat)).length : Int) else c96))) ≤ (c80.length : Int)) then
         (play_pick (c0, (c80.drop v4.toNat).take ((wi64 (v4 + (bif decide ((((c80.drop v4.toNat).take ((c80.length : Int).toNat - v4.toNat)).length : Int) < c96) then (((c80.drop v4.toNat).take ((c80.length : Int).toNat - v4.toNat)).length : Int) else c96))).toNat - v4.toNat), ())).bind fun y1 =>
         bif decide ((r208.length + 1) * 40 ≤ 140737488355328) then
          some (.next (wi64 (v4 + c96), c0, c80, c96, r208 ++ [(y1.1.1, (y1.1.2.1.1, y1.1.2.1.2.1, y1.1.2.1.2.2.1, y1.1.2.1.2.2.2.1, ()), ())], ()))
         else none
        else none
       else none
      else none
     else none
    else none
   else none
  else none
 else
 some (.fin (.out (r208, ())))
def play_Decode_s0 (x : play_Decode_h0.T) : Option (SRes play_Decode_h0 play_Decode_o0 play_Decode_e0) := play_Decode_s0r x.1 x.2.1 x.2.2.1 x.2.2.2.1 x.2.2.2.2.1
def play_Decode_l0 (x : play_Decode_h0.T) : Option (LRes play_Decode_o0 play_Decode_e0) := iterL play_Decode_s0 9223372036854775808 x
def play_Decode_r (a0 : Int) (a1 : List Int) : Option ((List (Int × (Int × Int × Val) × Unit)) × Unit) :=
 (play_Decode_l0 (0, a0, a1, 5, [], ())).bind fun s2 => match s2 with
 | .out s2 =>
  some (s2.1, ())
 | .ret s2 =>
  none
def play_Decode (x : Grey) : Option ((List (Int × (Int × Int × Val) × Unit)) × Unit) := play_Decode_r x.1 x.2.1
def play_Decode_sm : Sum := ⟨cGrey, (.cons (.own (.cons cI (.cons (.cons cI (.cons cI cVal)) .nil))) .nil), play_Decode⟩
def play_Decode_L0 : LoopSum := { hc := ⟨[], [0, 1, 2, 4], [(.key 32 [], (.cons cI (.cons (.cons cI (.cons cI cVal)) .nil)))], [], [0, 32, 80, 96], [], 208⟩, h := ⟨[(0, (.fn 10 (.cons (.pvar 0 []) (.cons (.pvar 32 []) .nil)) .yld)), (1, (.pvar 80 [])), (2, (.pvar 96 [])), (4, (.d cI))], [(0, (.d cI)), (32, (.row 208)), (80, (.d (.sl cI))), (96, (.d cI))], [(208, (.cons cI (.cons (.cons cI (.cons cI cVal)) .nil)), true)], 209, false⟩, xid := 0, oc := ⟨[], [], [(.key 32 [], (.cons cI (.cons (.cons cI (.cons cI cVal)) .nil)))], [], [32], [], 208⟩, o := ⟨[], [(32, (.row 208))], [(208, (.cons cI (.cons (.cons cI (.cons cI cVal)) .nil)), true)], 209, false⟩, rc := ⟨[], [], [], [], [208], [], 208⟩, r := ⟨[], [], [], 208, false⟩, F := play_Decode_l0 }
def play_Decode_c : Ctx := ⟨[(22, play_pick_sm)], [(10, Tryz.f10), (21, Tryz.f21), (34, Tryz.f34)], [⟨7, 34, 192, 0, play_Decode_L0⟩]⟩
theorem play_Decode_sem : SemOf Tryz.prog 10 play_Decode_sm := semC (c := play_Decode_c) Tryz.func10 (sc play_pick_sem an) (fc (flC Tryz.func10 (hG := rng_some [2, 5] (by kernel_rfl) (by kernel_rfl))) (fc (flC Tryz.func21) (fc (flC Tryz.func34) an))) (ec (aeC [true, false, false] play_Decode_s0 Tryz.func34) an) 8 (hG := rng_some [2, 5] (by kernel_rfl) (by kernel_rfl))
def cycle_within_r (a0 : Int) (a1 : Int) (a2 : Int) : Option (Bool × Unit) :=
 bif decide (a0 ≥ a1) then
  some (decide (a0 ≤ a2), ())
 else
 some (false, ())
def cycle_within (x : Int × Val) : Option (Bool × Unit) := cycle_within_r x.1 x.2.1 x.2.2.1
def cycle_within_sm : Sum := ⟨(.cons cI cVal), (.cons (.d .bool) .nil), cycle_within⟩
def cycle_within_c : Ctx := ⟨[], [], []⟩
theorem cycle_within_sem : SemOf Tryz.prog 50 cycle_within_sm := semC (c := cycle_within_c) Tryz.func50 an an an 8
def cycle_May_r (a0 : Rep) : Option (Bool × Unit) :=
 (cycle_within (a0.1, 1, 16, ())).bind fun y1 =>
 bif y1.1 then
  (cycle_within (a0.2.1, 1, 8, ())).bind fun y2 =>
  bif y2.1 then
   (cycle_within (a0.2.2.1, 1, 8, ())).bind fun y3 =>
   bif y3.1 then
    (cycle_within (a0.2.2.2.1, 0, 16, ())).bind fun y4 =>
    bif y4.1 then
     (cycle_within (a0.2.2.2.2.1, 0, 8, ())).bind fun y5 =>
     some (y5.1, ())
    else
    some (false, ())
   else
   some (false, ())
  else
  some (false, ())
 else
 some (false, ())
def cycle_May (x : Rep × Unit) : Option (Bool × Unit) := cycle_May_r x.1
def cycle_May_sm : Sum := ⟨(.cons cRep .nil), (.cons (.d .bool) .nil), cycle_May⟩
def cycle_May_c : Ctx := ⟨[(50, cycle_within_sm)], [], []⟩
theorem cycle_May_sem : SemOf Tryz.prog 37 cycle_May_sm := semC (c := cycle_May_c) Tryz.func37 (sc cycle_within_sem an) an an 8
def arena_New_r (a0 : Int) : Option ((List Int) × Int × Unit) :=
 bif decide (a0 < 1) then
  some ([], 1, ())
 else
 bif decide (a0 > 16) then
  some ([], 1, ())
 else
 bif (wi64 (a0 * 32)) == (wi64 (a0 * 32)) then
  bif decide (0 ≤ (wi64 (a0 * 32))) then
   bif decide ((wi64 (a0 * 32)).toNat * 8 ≤ 140737488355328) then
    some (List.replicate (wi64 (a0 * 32)).toNat (0 : Int), 0, ())
   else none
  else none
 else none
def arena_New (x : Int × Unit) : Option ((List Int) × Int × Unit) := arena_New_r x.1
def arena_New_sm : Sum := ⟨(.cons cI .nil), (.cons (.own (.int .u64)) (.cons (.d cI) .nil)), arena_New⟩
def arena_New_c : Ctx := ⟨[], [], []⟩
theorem arena_New_sem : SemOf Tryz.prog 51 arena_New_sm := semC (c := arena_New_c) Tryz.func51 an an an 8
def heap_New_r (a0 : Int) : Option (Heap × Int × Unit) :=
 (arena_New (a0, ())).bind fun y1 =>
 bif y1.2.1 != 0 then
  some (([], [], false, ()), y1.2.1, ())
 else
 bif a0 == a0 then
  bif decide (0 ≤ a0) then
   bif decide (a0.toNat * 24 ≤ 140737488355328) then
    some ((y1.1, List.replicate a0.toNat ((0, 0, 0, ()) : Span), false, ()), 0, ())
   else none
  else none
 else none
def heap_New (x : Int × Unit) : Option (Heap × Int × Unit) := heap_New_r x.1
def heap_New_sm : Sum := ⟨(.cons cI .nil), (.cons (.cons (.own (.int .u64)) (.cons (.own cSpan) (.cons (.d .bool) .nil))) (.cons (.d cI) .nil)), heap_New⟩
def heap_New_c : Ctx := ⟨[(51, arena_New_sm)], [], []⟩
theorem heap_New_sem : SemOf Tryz.prog 38 heap_New_sm := semC (c := heap_New_c) Tryz.func38 (sc arena_New_sem an) an an 8
abbrev world_New_h0 : U := (.cons cI (.cons cI (.cons cRep (.cons (.cons .bool .nil) (.cons cI (.cons .nil (.cons (.cons cI (.cons cI (.cons cI (.cons .bool .nil)))) (.cons cI (.cons .bool (.cons cI (.cons .nil (.cons cRep (.cons (.cons .bool .nil) (.cons cI (.cons .nil (.cons (.cons cI (.cons cI (.cons cI (.cons .bool .nil)))) (.cons cI (.cons .bool (.cons cI (.cons .nil (.cons (.sl (.int .u64)) (.cons (.sl cSpan) (.cons (.sl cMut) .nil)))))))))))))))))))))))
abbrev world_New_o0 : U := (.cons cRep (.cons (.cons .bool .nil) (.cons cI (.cons .nil (.cons (.cons cI (.cons cI (.cons cI (.cons .bool .nil)))) (.cons cI (.cons .bool (.cons cI (.cons .nil (.cons cRep (.cons (.cons .bool .nil) (.cons cI (.cons .nil (.cons (.cons cI (.cons cI (.cons cI (.cons .bool .nil)))) (.cons cI (.cons .bool (.cons cI (.cons .nil (.cons (.sl (.int .u64)) (.cons (.sl cSpan) (.cons (.sl cMut) .nil)))))))))))))))))))))
abbrev world_New_e0 : U := .nil
def world_New_s0r (v19 : Int) (v20 : Int) (c16_0 : Rep) (c16_1 : Bool × Unit) (c16_2 : Int) (c16_3 : Unit) (c16_4 : Int × Int × Int × Bool × Unit) (c16_5 : Int) (c16_6 : Bool) (c16_7 : Int) (c16_8 : Unit) (c128_0 : Rep) (c128_1 : Bool × Unit) (c128_2 : Int) (c128_3 : Unit) (c128_4 : Int × Int × Int × Bool × Unit) (c128_5 : Int) (c128_6 : Bool) (c128_7 : Int) (c128_8 : Unit) (r192 : List Int) (r193 : List Span) (r336 : List Mut) : Option (SRes world_New_h0 world_New_o0 world_New_e0) :=
 bif decide (v20 < v19) then
  bif decide ((r336.length + 1) * 120 ≤ 140737488355328) then
   some (.next (v19, wi64 (v20 + 1), c16_0, c16_1, c16_2, c16_3, c16_4, c16_5, c16_6, c16_7, c16_8, c128_0, c128_1, c128_2, c128_3, c128_4, c128_5, c128_6, c128_7, c128_8, r192, r193, r336 ++ [([], 0, (0, 0, 0, 0, ()), 0, (0, 0, ()), ([(-1), (-1), (-1), (-1)] : List Int), ())], ()))
  else none
 else
 some (.fin (.out (c16_0, c16_1, c16_2, c16_3, c16_4, c16_5, c16_6, c16_7, c16_8, c128_0, c128_1, c128_2, c128_3, c128_4, c128_5, c128_6, c128_7, c128_8, r192, r193, r336, ())))
def world_New_s0 (x : world_New_h0.T) : Option (SRes world_New_h0 world_New_o0 world_New_e0) := world_New_s0r x.1 x.2.1 x.2.2.1 x.2.2.2.1 x.2.2.2.2.1 x.2.2.2.2.2.1 x.2.2.2.2.2.2.1 x.2.2.2.2.2.2.2.1 x.2.2.2.2.2.2.2.2.1 x.2.2.2.2.2.2.2.2.2.1 x.2.2.2.2.2.2.2.2.2.2.1 x.2.2.2.2.2.2.2.2.2.2.2.1 x.2.2.2.2.2.2.2.2.2.2.2.2.1 x.2.2.2.2.2.2.2.2.2.2.2.2.2.1 x.2.2.2.2.2.2.2.2.2.2.2.2.2.2.1 x.2.2.2.2.2.2.2.2.2.2.2.2.2.2.2.1 x.2.2.2.2.2.2.2.2.2.2.2.2.2.2.2.2.1 x.2.2.2.2.2.2.2.2.2.2.2.2.2.2.2.2.2.1 x.2.2.2.2.2.2.2.2.2.2.2.2.2.2.2.2.2.2.1 x.2.2.2.2.2.2.2.2.2.2.2.2.2.2.2.2.2.2.2.1 x.2.2.2.2.2.2.2.2.2.2.2.2.2.2.2.2.2.2.2.2.1 x.2.2.2.2.2.2.2.2.2.2.2.2.2.2.2.2.2.2.2.2.2.1 x.2.2.2.2.2.2.2.2.2.2.2.2.2.2.2.2.2.2.2.2.2.2.1
def world_New_l0 (x : world_New_h0.T) : Option (LRes world_New_o0 world_New_e0) := iterL world_New_s0 9223372036854775808 x
def world_New_r (a0 : Rep) : Option (Wrld × Int × Unit) :=
 (cycle_May (a0, ())).bind fun y1 =>
 bif !y1.1 then
  some (((0, 0, 0, 0, 0, ()), ([], [], false, ()), [], ((0, [], ()), [], [], 0, 0, 0, false, ()), 0, false, 0, [], ()), 1, ())
 else
 (heap_New (a0.1, ())).bind fun y2 =>
 (world_New_l0 (a0.2.1, 0, (0, 0, 0, 0, 0, ()), (false, ()), 0, (), (0, 0, 0, false, ()), 0, false, 0, (), a0, (y2.1.2.2.1, ()), 0, (), (0, 0, 0, false, ()), 0, false, 0, (), y2.1.1, y2.1.2.1, [], ())).bind fun s3 => match s3 with
 | .out s3 =>
  some ((s3.2.2.2.2.2.2.2.2.2.1, (s3.2.2.2.2.2.2.2.2.2.2.2.2.2.2.2.2.2.2.1, s3.2.2.2.2.2.2.2.2.2.2.2.2.2.2.2.2.2.2.2.1, s3.2.2.2.2.2.2.2.2.2.2.1), s3.2.2.2.2.2.2.2.2.2.2.2.2.2.2.2.2.2.2.2.2.1, ((s3.2.2.2.2.2.2.2.2.2.2.2.1, [], s3.2.2.2.2.2.2.2.2.2.2.2.2.1), [], [], s3.2.2.2.2.2.2.2.2.2.2.2.2.2.1), s3.2.2.2.2.2.2.2.2.2.2.2.2.2.2.1, s3.2.2.2.2.2.2.2.2.2.2.2.2.2.2.2.1, s3.2.2.2.2.2.2.2.2.2.2.2.2.2.2.2.2.1, [], s3.2.2.2.2.2.2.2.2.2.2.2.2.2.2.2.2.2.1), 0, ())
 | .ret s3 =>
  none
def world_New (x : Rep × Unit) : Option (Wrld × Int × Unit) := world_New_r x.1
def world_New_sm : Sum := ⟨(.cons cRep .nil), (.cons (.cons (.d cRep) (.cons (.cons (.own (.int .u64)) (.cons (.own cSpan) (.d (.cons .bool .nil)))) (.cons (.own cMut) (.cons (.cons (.cons (.d cI) (.cons (.own cI) (.d .nil))) (.cons (.own cGrey) (.cons (.own cVal) (.d (.cons cI (.cons cI (.cons cI (.cons .bool .nil)))))))) (.cons (.d cI) (.cons (.d .bool) (.cons (.d cI) (.cons (.own cRep) (.d .nil))))))))) (.cons (.d cI) .nil)), world_New⟩
def world_New_L0 : LoopSum := { hc := ⟨[], [2, 4, 19, 20], [(.key 128 [.fld 2], cMut)], [], [16, 128], [192, 193], 336⟩, h := ⟨[(2, (.pvar 16 [])), (4, (.pvar 128 [])), (19, (.d cI)), (20, (.d cI))], [(16, (.cons (.d cRep) (.cons (.cons .nilsl (.cons .nilsl (.d (.cons .bool .nil)))) (.cons .nilsl (.cons (.cons (.cons (.d cI) (.cons .nilsl (.d .nil))) (.cons .nilsl (.cons .nilsl (.d (.cons cI (.cons cI (.cons cI (.cons .bool .nil)))))))) (.cons (.d cI) (.cons (.d .bool) (.cons (.d cI) (.cons .nilsl (.d .nil)))))))))), (128, (.cons (.d cRep) (.cons (.cons (.row 192) (.cons (.row 193) (.d (.cons .bool .nil)))) (.cons (.row 336) (.cons (.cons (.cons (.d cI) (.cons .nilsl (.d .nil))) (.cons .nilsl (.cons .nilsl (.d (.cons cI (.cons cI (.cons cI (.cons .bool .nil)))))))) (.cons (.d cI) (.cons (.d .bool) (.cons (.d cI) (.cons .nilsl (.d .nil))))))))))], [(192, (.int .u64), true), (193, cSpan, true), (336, cMut, true)], 337, false⟩, xid := 0, oc := ⟨[], [2, 4], [(.ptr 4 [.fld 2], cMut)], [], [16, 128], [192, 193], 336⟩, o := ⟨[(2, (.pvar 16 [])), (4, (.pvar 128 []))], [(16, (.cons (.d cRep) (.cons (.cons .nilsl (.cons .nilsl (.d (.cons .bool .nil)))) (.cons .nilsl (.cons (.cons (.cons (.d cI) (.cons .nilsl (.d .nil))) (.cons .nilsl (.cons .nilsl (.d (.cons cI (.cons cI (.cons cI (.cons .bool .nil)))))))) (.cons (.d cI) (.cons (.d .bool) (.cons (.d cI) (.cons .nilsl (.d .nil)))))))))), (128, (.cons (.d cRep) (.cons (.cons (.row 192) (.cons (.row 193) (.d (.cons .bool .nil)))) (.cons (.row 336) (.cons (.cons (.cons (.d cI) (.cons .nilsl (.d .nil))) (.cons .nilsl (.cons .nilsl (.d (.cons cI (.cons cI (.cons cI (.cons .bool .nil)))))))) (.cons (.d cI) (.cons (.d .bool) (.cons (.d cI) (.cons .nilsl (.d .nil))))))))))], [(192, (.int .u64), true), (193, cSpan, true), (336, cMut, true)], 337, false⟩, rc := ⟨[], [], [], [], [336], [], 336⟩, r := ⟨[], [], [], 336, false⟩, F := world_New_l0 }
def world_New_c : Ctx := ⟨[(37, cycle_May_sm), (38, heap_New_sm)], [], [⟨8, 24, 0, 0, world_New_L0⟩]⟩
theorem world_New_sem : SemOf Tryz.prog 24 world_New_sm := semC (c := world_New_c) Tryz.func24 (sc cycle_May_sem (sc heap_New_sem an)) an (ec (aeC [true, true, true, true, false, true, false, false] world_New_s0 Tryz.func24) an) 8
def math_bits_Mul32_r (a0 : Int) (a1 : Int) : Option (Int × Int × Unit) :=
 some (wu32 (shiftI false .u64 (wu64 ((wu64 a0) * (wu64 a1))) 32), wu32 (wu64 ((wu64 a0) * (wu64 a1))), ())
def math_bits_Mul32 (x : Int × Int × Unit) : Option (Int × Int × Unit) := math_bits_Mul32_r x.1 x.2.1
def math_bits_Mul32_sm : Sum := ⟨(.cons (.int .u32) (.cons (.int .u32) .nil)), (.cons (.d (.int .u32)) (.cons (.d (.int .u32)) .nil)), math_bits_Mul32⟩
def math_bits_Mul32_c : Ctx := ⟨[], [], []⟩
theorem math_bits_Mul32_sem : SemOf Tryz.prog 210 math_bits_Mul32_sm := semC (c := math_bits_Mul32_c) Tryz.func210 an an an 8
def math_bits_Mul64_r (a0 : Int) (a1 : Int) : Option (Int × Int × Unit) :=
 some (wu64 ((wu64 ((wu64 ((shiftI false .u64 a0 32) * (shiftI false .u64 a1 32))) + (shiftI false .u64 (wu64 ((wu64 ((shiftI false .u64 a0 32) * (bitsI .and .u64 a1 4294967295))) + (shiftI false .u64 (wu64 ((bitsI .and .u64 a0 4294967295) * (bitsI .and .u64 a1 4294967295))) 32))) 32))) + (shiftI false .u64 (wu64 ((bitsI .and .u64 (wu64 ((wu64 ((shiftI false .u64 a0 32) * (bitsI .and .u64 a1 4294967295))) + (shiftI false .u64 (wu64 ((bitsI .and .u64 a0 4294967295) * (bitsI .and .u64 a1 4294967295))) 32))) 4294967295) + (wu64 ((bitsI .and .u64 a0 4294967295) * (shiftI false .u64 a1 32))))) 32)), wu64 (a0 * a1), ())
def math_bits_Mul64 (x : Int × Int × Unit) : Option (Int × Int × Unit) := math_bits_Mul64_r x.1 x.2.1
def math_bits_Mul64_sm : Sum := ⟨(.cons (.int .u64) (.cons (.int .u64) .nil)), (.cons (.d (.int .u64)) (.cons (.d (.int .u64)) .nil)), math_bits_Mul64⟩
def math_bits_Mul64_c : Ctx := ⟨[], [], []⟩
theorem math_bits_Mul64_sem : SemOf Tryz.prog 211 math_bits_Mul64_sm := semC (c := math_bits_Mul64_c) Tryz.func211 an an an 8
def math_bits_Mul_r (a0 : Int) (a1 : Int) : Option (Int × Int × Unit) :=
 (math_bits_Mul64 (a0, a1, ())).bind fun y1 =>
 some (y1.1, y1.2.1, ())
def math_bits_Mul (x : Int × Int × Unit) : Option (Int × Int × Unit) := math_bits_Mul_r x.1 x.2.1
def math_bits_Mul_sm : Sum := ⟨(.cons (.int .u64) (.cons (.int .u64) .nil)), (.cons (.d (.int .u64)) (.cons (.d (.int .u64)) .nil)), math_bits_Mul⟩
def math_bits_Mul_c : Ctx := ⟨[(211, math_bits_Mul64_sm)], [], []⟩
theorem math_bits_Mul_sem : SemOf Tryz.prog 188 math_bits_Mul_sm := semC (c := math_bits_Mul_c) Tryz.func188 (sc math_bits_Mul64_sem an) an an 8
abbrev slices_Repeat_h0 : U := cGrey
abbrev slices_Repeat_o0 : U := (.cons (.sl cI) .nil)
abbrev slices_Repeat_e0 : U := .nil
def slices_Repeat_s0r (v8 : Int) (r352 : List Int) : Option (SRes slices_Repeat_h0 slices_Repeat_o0 slices_Repeat_e0) :=
 bif decide (v8 < (r352.length : Int)) then
  bif decide (0 ≤ v8) then
   bif decide (v8 ≤ (r352.length : Int)) then
    bif decide ((r352.length : Int) ≤ (r352.length : Int)) then
     bif decide (0 ≤ v8) then
      bif decide (v8 ≤ (r352.length : Int)) then
       some (.next (wi64 (v8 + ((((r352.drop 0).take (v8.toNat - 0)).take ((r352.length : Int).toNat - v8.toNat)).length : Int)), segSet r352 v8.toNat (((r352.drop 0).take (v8.toNat - 0)).take ((r352.length : Int).toNat - v8.toNat)), ()))
      else none
     else none
    else none
   else none
  else none
 else
 some (.fin (.out (r352, ())))
def slices_Repeat_s0 (x : slices_Repeat_h0.T) : Option (SRes slices_Repeat_h0 slices_Repeat_o0 slices_Repeat_e0) := slices_Repeat_s0r x.1 x.2.1
def slices_Repeat_l0 (x : slices_Repeat_h0.T) : Option (LRes slices_Repeat_o0 slices_Repeat_e0) := iterL slices_Repeat_s0 9223372036854775808 x
def slices_Repeat_r (a0 : List Int) (a1 : Int) : Option ((List Int) × Unit) :=
 bif decide (a1 < 0) then none else
 (math_bits_Mul (wu64 (a0.length : Int), wu64 a1, ())).bind fun y1 =>
 bif decide (y1.1 > 0) then none else
 bif decide (y1.2.1 > 9223372036854775807) then none else
 bif (wi64 y1.2.1) == (wi64 y1.2.1) then
  bif decide (0 ≤ (wi64 y1.2.1)) then
   bif decide ((wi64 y1.2.1).toNat * 8 ≤ 140737488355328) then
    (slices_Repeat_l0 (((a0.take (List.replicate (wi64 y1.2.1).toNat (0 : Int)).length).length : Int), segSet (List.replicate (wi64 y1.2.1).toNat (0 : Int)) 0 (a0.take (List.replicate (wi64 y1.2.1).toNat (0 : Int)).length), ())).bind fun s2 => match s2 with
    | .out s2 =>
     some (s2.1, ())
    | .ret s2 =>
     none
   else none
  else none
 else none
def slices_Repeat (x : (List Int) × Int × Unit) : Option ((List Int) × Unit) := slices_Repeat_r x.1 x.2.1
def slices_Repeat_sm : Sum := ⟨(.cons (.sl cI) (.cons cI .nil)), (.cons (.own cI) .nil), slices_Repeat⟩
def slices_Repeat_L0 : LoopSum := { hc := ⟨[], [7, 8], [], [], [], [352], 448⟩, h := ⟨[(7, (.row 352)), (8, (.d cI))], [], [(352, cI, true)], 448, false⟩, xid := 0, oc := ⟨[], [7], [], [], [], [352], 448⟩, o := ⟨[(7, (.row 352))], [], [(352, cI, true)], 448, false⟩, rc := ⟨[], [], [], [], [448], [], 448⟩, r := ⟨[], [], [], 448, false⟩, F := slices_Repeat_l0 }
def slices_Repeat_c : Ctx := ⟨[(188, math_bits_Mul_sm)], [], [⟨8, 164, 0, 0, slices_Repeat_L0⟩]⟩
theorem slices_Repeat_sem : SemOf Tryz.prog 164 slices_Repeat_sm := semC (c := slices_Repeat_c) Tryz.func164 (sc math_bits_Mul_sem an) an (ec (aeC [true, true, true, true, true, true, false, false, false] slices_Repeat_s0 Tryz.func164) an) 8
def grey_New_r (a0 : Int) : Option (Grey × Bool × Unit) :=
 bif decide (a0 < 0) then
  some ((0, [], ()), false, ())
 else
 bif decide (a0 > 16) then
  some ((0, [], ()), false, ())
 else
 some ((a0, [], ()), true, ())
def grey_New (x : Int × Unit) : Option (Grey × Bool × Unit) := grey_New_r x.1
def grey_New_sm : Sum := ⟨(.cons cI .nil), (.cons (.cons (.d cI) (.cons (.own cI) .nil)) (.cons (.d .bool) .nil)), grey_New⟩
def grey_New_c : Ctx := ⟨[], [], []⟩
theorem grey_New_sem : SemOf Tryz.prog 190 grey_New_sm := semC (c := grey_New_c) Tryz.func190 an an an 8
abbrev mark_New_h0 : U := (.cons (.sl cI) (.cons cI (.cons cI (.cons cI (.cons .nil (.cons (.cons cI (.cons cI (.cons cI (.cons .bool .nil)))) (.cons cI (.cons .nil (.cons (.cons cI (.cons cI (.cons cI (.cons .bool .nil)))) (.cons (.sl cVal) (.cons (.sl cI) (.cons (.sl cGrey) .nil))))))))))))
abbrev mark_New_o0 : U := (.cons cI (.cons .nil (.cons (.cons cI (.cons cI (.cons cI (.cons .bool .nil)))) (.cons cI (.cons .nil (.cons (.cons cI (.cons cI (.cons cI (.cons .bool .nil)))) (.cons (.sl cVal) (.cons (.sl cI) (.cons (.sl cGrey) .nil)))))))))
abbrev mark_New_e0 : U := (.cons .bool (.cons cI (.cons .nil (.cons (.cons cI (.cons cI (.cons cI (.cons .bool .nil)))) .nil))))
def mark_New_s0r (v28 : List Int) (v29 : Int) (v30 : Int) (c0_0 : Int) (c0_1 : Unit) (c0_2 : Int × Int × Int × Bool × Unit) (c80_0 : Int) (c80_1 : Unit) (c80_2 : Int × Int × Int × Bool × Unit) (r48 : List Val) (r128 : List Int) (r368 : List Grey) : Option (SRes mark_New_h0 mark_New_o0 mark_New_e0) :=
 bif decide (v30 < v29) then
  bif decide (0 ≤ v30) then
   bif decide (v30 < (v28.length : Int)) then
    (grey_New (v28.getD v30.toNat 0, ())).bind fun y3 =>
    bif !y3.2.1 then
     some (.fin (.ret (false, 0, (), (0, 0, 0, false, ()), ())))
    else
    bif decide ((r368.length + 1) * 32 ≤ 140737488355328) then
     some (.next (v28, v29, wi64 (v30 + 1), c0_0, c0_1, c0_2, c80_0, c80_1, c80_2, r48, r128, r368 ++ [(y3.1.1, y3.1.2.1, ())], ()))
    else none
   else none
  else none
 else
 some (.fin (.out (c0_0, c0_1, c0_2, c80_0, c80_1, c80_2, r48, r128, r368, ())))
def mark_New_s0 (x : mark_New_h0.T) : Option (SRes mark_New_h0 mark_New_o0 mark_New_e0) := mark_New_s0r x.1 x.2.1 x.2.2.1 x.2.2.2.1 x.2.2.2.2.1 x.2.2.2.2.2.1 x.2.2.2.2.2.2.1 x.2.2.2.2.2.2.2.1 x.2.2.2.2.2.2.2.2.1 x.2.2.2.2.2.2.2.2.2.1 x.2.2.2.2.2.2.2.2.2.2.1 x.2.2.2.2.2.2.2.2.2.2.2.1
def mark_New_l0 (x : mark_New_h0.T) : Option (LRes mark_New_o0 mark_New_e0) := iterL mark_New_s0 9223372036854775808 x
def mark_New_r (a0 : Int) (a1 : List Int) (a2 : List Val) : Option (Marker × Bool × Unit) :=
 (slices_Clone_api_Value (a2, ())).bind fun y1 =>
 (grey_New (a0, ())).bind fun y2 =>
 bif !y2.2.1 then
  some (((0, [], ()), [], [], 0, 0, 0, false, ()), false, ())
 else
 (mark_New_l0 (a1, (a1.length : Int), 0, 0, (), (0, 0, 0, false, ()), y2.1.1, (), ((-1), 0, (-1), false, ()), y1.1, y2.1.2.1, [], ())).bind fun s4 => match s4 with
 | .out s4 =>
  some (((s4.2.2.2.1, s4.2.2.2.2.2.2.2.1, s4.2.2.2.2.1), s4.2.2.2.2.2.2.2.2.1, s4.2.2.2.2.2.2.1, s4.2.2.2.2.2.1), true, ())
 | .ret s4 =>
  some (((s4.2.1, [], s4.2.2.1), [], [], s4.2.2.2.1), s4.1, ())
def mark_New (x : Int × (List Int) × (List Val) × Unit) : Option (Marker × Bool × Unit) := mark_New_r x.1 x.2.1 x.2.2.1
def mark_New_sm : Sum := ⟨(.cons cI (.cons (.sl cI) (.cons (.sl cVal) .nil))), (.cons (.cons (.cons (.d cI) (.cons (.own cI) (.d .nil))) (.cons (.own cGrey) (.cons (.own cVal) (.d (.cons cI (.cons cI (.cons cI (.cons .bool .nil)))))))) (.cons (.d .bool) .nil)), mark_New⟩
def mark_New_L0 : LoopSum := { hc := ⟨[], [6, 8, 28, 29, 30], [(.key 80 [.fld 1], cGrey)], [], [0, 80], [48, 128], 368⟩, h := ⟨[(6, (.pvar 0 [])), (8, (.pvar 80 [])), (28, (.d (.sl cI))), (29, (.d cI)), (30, (.d cI))], [(0, (.cons (.cons (.d cI) (.cons .nilsl (.d .nil))) (.cons .nilsl (.cons .nilsl (.d (.cons cI (.cons cI (.cons cI (.cons .bool .nil))))))))), (80, (.cons (.cons (.d cI) (.cons (.row 128) (.d .nil))) (.cons (.row 368) (.cons (.row 48) (.d (.cons cI (.cons cI (.cons cI (.cons .bool .nil)))))))))], [(48, cVal, true), (128, cI, true), (368, cGrey, true)], 369, false⟩, xid := 0, oc := ⟨[], [6, 8], [(.ptr 8 [.fld 1], cGrey)], [], [0, 80], [48, 128], 368⟩, o := ⟨[(6, (.pvar 0 [])), (8, (.pvar 80 []))], [(0, (.cons (.cons (.d cI) (.cons .nilsl (.d .nil))) (.cons .nilsl (.cons .nilsl (.d (.cons cI (.cons cI (.cons cI (.cons .bool .nil))))))))), (80, (.cons (.cons (.d cI) (.cons (.row 128) (.d .nil))) (.cons (.row 368) (.cons (.row 48) (.d (.cons cI (.cons cI (.cons cI (.cons .bool .nil)))))))))], [(48, cVal, true), (128, cI, true), (368, cGrey, true)], 369, false⟩, rc := ⟨[], [6, 7], [], [], [0], [], 368⟩, r := ⟨[(6, (.pvar 0 [])), (7, (.d .bool))], [(0, (.cons (.cons (.d cI) (.cons .nilsl (.d .nil))) (.cons .nilsl (.cons .nilsl (.d (.cons cI (.cons cI (.cons cI (.cons .bool .nil)))))))))], [], 368, false⟩, F := mark_New_l0 }
def mark_New_c : Ctx := ⟨[(189, slices_Clone_api_Value_sm), (190, grey_New_sm)], [], [⟨8, 165, 0, 0, mark_New_L0⟩]⟩
theorem mark_New_sem : SemOf Tryz.prog 165 mark_New_sm := semC (c := mark_New_c) Tryz.func165 (sc slices_Clone_api_Value_sem (sc grey_New_sem an)) an (ec (aeC [true, true, true, true, true, false, true, false, false] mark_New_s0 Tryz.func165) an) 8
abbrev slices_Concat_h0 : U := (.cons (.sl (.sl cVal)) (.cons cI (.cons (.sl (.sl cVal)) cVal)))
abbrev slices_Concat_o0 : U := (.cons (.sl (.sl cVal)) (.cons cI .nil))
abbrev slices_Concat_e0 : U := .nil
def slices_Concat_s0r (v0 : List (List Val)) (v3 : Int) (v9 : List (List Val)) (v10 : Int) (v11 : Int) : Option (SRes slices_Concat_h0 slices_Concat_o0 slices_Concat_e0) :=
 bif decide (v11 < v10) then
  bif decide (0 ≤ v11) then
   bif decide (v11 < (v9.length : Int)) then
    bif decide ((wi64 (v3 + ((v9.getD v11.toNat []).length : Int))) < 0) then none else
    some (.next (v0, wi64 (v3 + ((v9.getD v11.toNat []).length : Int)), v9, v10, wi64 (v11 + 1), ()))
   else none
  else none
 else
 some (.fin (.out (v0, v3, ())))
def slices_Concat_s0 (x : slices_Concat_h0.T) : Option (SRes slices_Concat_h0 slices_Concat_o0 slices_Concat_e0) := slices_Concat_s0r x.1 x.2.1 x.2.2.1 x.2.2.2.1 x.2.2.2.2.1
def slices_Concat_l0 (x : slices_Concat_h0.T) : Option (LRes slices_Concat_o0 slices_Concat_e0) := iterL slices_Concat_s0 9223372036854775808 x
abbrev slices_Concat_h1 : U := (.cons (.sl (.sl cVal)) (.cons cI (.cons cI (.cons (.sl cVal) .nil))))
abbrev slices_Concat_o1 : U := (.cons (.sl cVal) .nil)
abbrev slices_Concat_e1 : U := .nil
def slices_Concat_s1r (v25 : List (List Val)) (v26 : Int) (v27 : Int) (r576 : List Val) : Option (SRes slices_Concat_h1 slices_Concat_o1 slices_Concat_e1) :=
 bif decide (v27 < v26) then
  bif decide (0 ≤ v27) then
   bif decide (v27 < (v25.length : Int)) then
    bif decide ((r576.length + (v25.getD v27.toNat []).length) * 16 ≤ 140737488355328) then
     some (.next (v25, v26, wi64 (v27 + 1), r576 ++ (v25.getD v27.toNat []), ()))
    else none
   else none
  else none
 else
 some (.fin (.out (r576, ())))
def slices_Concat_s1 (x : slices_Concat_h1.T) : Option (SRes slices_Concat_h1 slices_Concat_o1 slices_Concat_e1) := slices_Concat_s1r x.1 x.2.1 x.2.2.1 x.2.2.2.1
def slices_Concat_l1 (x : slices_Concat_h1.T) : Option (LRes slices_Concat_o1 slices_Concat_e1) := iterL slices_Concat_s1 9223372036854775808 x
def slices_Concat_r (a0 : List (List Val)) : Option ((List Val) × Unit) :=
 (slices_Concat_l0 (a0, 0, a0, (a0.length : Int), 0, ())).bind fun s1 => match s1 with
 | .out s1 =>
  bif decide (s1.2.1 < 0) then none else
  bif decide ((wi64 (s1.2.1 - 0)) > 0) then
   bif decide (0 ≤ (wi64 (wi64 (s1.2.1 - 0)))) then
    bif decide ((wi64 (wi64 (s1.2.1 - 0))).toNat * 16 ≤ 140737488355328) then
     bif decide (0 ≤ ((List.replicate (wi64 (wi64 (s1.2.1 - 0))).toNat ((0, 0, ()) : Val)).length : Int)) then
      (slices_Concat_l1 (s1.1, (s1.1.length : Int), 0, ((List.replicate (wi64 (wi64 (s1.2.1 - 0))).toNat ((0, 0, ()) : Val)).drop 0).take 0, ())).bind fun s2 => match s2 with
      | .out s2 =>
       some (s2.1, ())
      | .ret s2 =>
       none
     else none
    else none
   else none
  else
  (slices_Concat_l1 (s1.1, (s1.1.length : Int), 0, [], ())).bind fun s3 => match s3 with
  | .out s3 =>
   some (s3.1, ())
  | .ret s3 =>
   none
 | .ret s1 =>
  none
def slices_Concat (x : (List (List Val)) × Unit) : Option ((List Val) × Unit) := slices_Concat_r x.1
def slices_Concat_sm : Sum := ⟨(.cons (.sl (.sl cVal)) .nil), (.cons (.own cVal) .nil), slices_Concat⟩
def slices_Concat_L0 : LoopSum := { hc := ⟨[], [0, 3, 9, 10, 11], [], [], [], [], 80⟩, h := ⟨[(0, (.d (.sl (.sl cVal)))), (3, (.d cI)), (9, (.d (.sl (.sl cVal)))), (10, (.d cI)), (11, (.d cI))], [], [], 80, false⟩, xid := 0, oc := ⟨[], [0, 3], [], [], [], [], 80⟩, o := ⟨[(0, (.d (.sl (.sl cVal)))), (3, (.d cI))], [], [], 80, false⟩, rc := ⟨[], [], [], [], [80], [], 80⟩, r := ⟨[], [], [], 80, false⟩, F := slices_Concat_l0 }
def slices_Concat_L1 : LoopSum := { hc := ⟨[], [6, 25, 26, 27], [(.tmp 6, cVal)], [], [], [], 576⟩, h := ⟨[(6, (.row 576)), (25, (.d (.sl (.sl cVal)))), (26, (.d cI)), (27, (.d cI))], [], [(576, cVal, true)], 577, false⟩, xid := 2, oc := ⟨[], [6], [(.tmp 6, cVal)], [], [], [], 576⟩, o := ⟨[(6, (.row 576))], [], [(576, cVal, true)], 577, false⟩, rc := ⟨[], [], [], [], [576], [], 576⟩, r := ⟨[], [], [], 576, false⟩, F := slices_Concat_l1 }
def slices_Concat_c : Ctx := ⟨[], [(191, Tryz.f191)], [⟨8, 166, 0, 0, slices_Concat_L0⟩, ⟨8, 166, 0, 2, slices_Concat_L1⟩]⟩
theorem slices_Concat_sem : SemOf Tryz.prog 166 slices_Concat_sm := semC (c := slices_Concat_c) Tryz.func166 an (fc (flC Tryz.func191) an) (ec (aeC [true, true, false, true, false, false] slices_Concat_s0 Tryz.func166) (ec (aeC [true, true, true, true, false, true, false, false] slices_Concat_s1 Tryz.func166) an)) 8
def snap_list_r (a0 : List Val) : Option ((List Val) × Unit) :=
 some (a0, ())
def snap_list (x : (List Val) × Unit) : Option ((List Val) × Unit) := snap_list_r x.1
def snap_list_sm : Sum := ⟨(.cons (.sl cVal) .nil), (.cons (.d (.sl cVal)) .nil), snap_list⟩
def snap_list_c : Ctx := ⟨[], [], []⟩
theorem snap_list_sem : SemOf Tryz.prog 212 snap_list_sm := semC (c := snap_list_c) Tryz.func212 an an an 8
def snap_Registers_r (a0 : Mut) : Option ((List Val) × Unit) :=
 bif a0.2.1 == 2 then
  (snap_list ([(2, a0.2.2.2.1, ())], ())).bind fun y1 =>
  some (y1.1, ())
 else
 bif a0.2.1 == 3 then
  (snap_list ([a0.2.2.2.2.1], ())).bind fun y2 =>
  some (y2.1, ())
 else
 bif a0.2.1 == 4 then
  (snap_list ([(2, a0.2.2.2.1, ()), a0.2.2.2.2.1], ())).bind fun y3 =>
  some (y3.1, ())
 else
 some ([], ())
def snap_Registers (x : Mut × Unit) : Option ((List Val) × Unit) := snap_Registers_r x.1
def snap_Registers_sm : Sum := ⟨(.cons cMut .nil), (.cons (.d (.sl cVal)) .nil), snap_Registers⟩
def snap_Registers_c : Ctx := ⟨[(212, snap_list_sm)], [], []⟩
theorem snap_Registers_sem : SemOf Tryz.prog 192 snap_Registers_sm := semC (c := snap_Registers_c) Tryz.func192 (sc snap_list_sem an) an an 8
abbrev snap_Held_h0 : U := (.cons (.sl cMut) (.cons cI (.cons cI (.cons (.sl cVal) .nil))))
abbrev snap_Held_o0 : U := (.cons (.sl cVal) .nil)
abbrev snap_Held_e0 : U := .nil
def snap_Held_s0r (v6 : List Mut) (v7 : Int) (v8 : Int) (r80 : List Val) : Option (SRes snap_Held_h0 snap_Held_o0 snap_Held_e0) :=
 bif decide (v8 < v7) then
  bif decide (0 ≤ v8) then
   bif decide (v8 < (v6.length : Int)) then
    bif decide ((r80.length + (v6.getD v8.toNat ([], 0, (0, 0, 0, 0, ()), 0, (0, 0, ()), List.replicate 4 0, ())).1.length) * 16 ≤ 140737488355328) then
     (snap_Registers (v6.getD v8.toNat ([], 0, (0, 0, 0, 0, ()), 0, (0, 0, ()), List.replicate 4 0, ()), ())).bind fun y1 =>
     bif decide (((r80 ++ (v6.getD v8.toNat ([], 0, (0, 0, 0, 0, ()), 0, (0, 0, ()), List.replicate 4 0, ())).1).length + y1.1.length) * 16 ≤ 140737488355328) then
      some (.next (v6, v7, wi64 (v8 + 1), (r80 ++ (v6.getD v8.toNat ([], 0, (0, 0, 0, 0, ()), 0, (0, 0, ()), List.replicate 4 0, ())).1) ++ y1.1, ()))
     else none
    else none
   else none
  else none
 else
 some (.fin (.out (r80, ())))
def snap_Held_s0 (x : snap_Held_h0.T) : Option (SRes snap_Held_h0 snap_Held_o0 snap_Held_e0) := snap_Held_s0r x.1 x.2.1 x.2.2.1 x.2.2.2.1
def snap_Held_l0 (x : snap_Held_h0.T) : Option (LRes snap_Held_o0 snap_Held_e0) := iterL snap_Held_s0 9223372036854775808 x
def snap_Held_r (a0 : List Mut) : Option ((List Val) × Unit) :=
 (snap_Held_l0 (a0, (a0.length : Int), 0, [], ())).bind fun s2 => match s2 with
 | .out s2 =>
  some (s2.1, ())
 | .ret s2 =>
  none
def snap_Held (x : (List Mut) × Unit) : Option ((List Val) × Unit) := snap_Held_r x.1
def snap_Held_sm : Sum := ⟨(.cons (.sl cMut) .nil), (.cons (.own cVal) .nil), snap_Held⟩
def snap_Held_L0 : LoopSum := { hc := ⟨[], [3, 6, 7, 8], [(.tmp 3, cVal)], [], [], [], 80⟩, h := ⟨[(3, (.row 80)), (6, (.d (.sl cMut))), (7, (.d cI)), (8, (.d cI))], [], [(80, cVal, true)], 81, false⟩, xid := 0, oc := ⟨[], [3], [(.tmp 3, cVal)], [], [], [], 80⟩, o := ⟨[(3, (.row 80))], [], [(80, cVal, true)], 81, false⟩, rc := ⟨[], [], [], [], [80], [], 80⟩, r := ⟨[], [], [], 80, false⟩, F := snap_Held_l0 }
def snap_Held_c : Ctx := ⟨[(192, snap_Registers_sm)], [], [⟨8, 167, 0, 0, snap_Held_L0⟩]⟩
theorem snap_Held_sem : SemOf Tryz.prog 167 snap_Held_sm := semC (c := snap_Held_c) Tryz.func167 (sc snap_Registers_sem an) an (ec (aeC [true, true, false, true, false, false] snap_Held_s0 Tryz.func167) an) 8
abbrev snap_Pending_h0 : U := (.cons (.sl cMut) (.cons cI (.cons cI (.cons cHeap (.cons (.sl cVal) .nil)))))
abbrev snap_Pending_o0 : U := (.cons (.sl cVal) .nil)
abbrev snap_Pending_e0 : U := .nil
def snap_Pending_s0r (v10 : List Mut) (v11 : Int) (v12 : Int) (c0 : Heap) (r96 : List Val) : Option (SRes snap_Pending_h0 snap_Pending_o0 snap_Pending_e0) :=
 bif decide (v12 < v11) then
  bif decide (0 ≤ v12) then
   bif decide (v12 < (v10.length : Int)) then
    bif (v10.getD v12.toNat ([], 0, (0, 0, 0, 0, ()), 0, (0, 0, ()), List.replicate 4 0, ())).2.1 == 4 then
     (object_Field (c0, (v10.getD v12.toNat ([], 0, (0, 0, 0, 0, ()), 0, (0, 0, ()), List.replicate 4 0, ())).2.2.2.1, (v10.getD v12.toNat ([], 0, (0, 0, 0, 0, ()), 0, (0, 0, ()), List.replicate 4 0, ())).2.2.1.2.2.1, ())).bind fun y1 =>
     bif decide ((r96.length + 1) * 16 ≤ 140737488355328) then
      some (.next (v10, v11, wi64 (v12 + 1), c0, r96 ++ [(y1.1.1, y1.1.2.1, ())], ()))
     else none
    else
    some (.next (v10, v11, wi64 (v12 + 1), c0, r96, ()))
   else none
  else none
 else
 some (.fin (.out (r96, ())))
def snap_Pending_s0 (x : snap_Pending_h0.T) : Option (SRes snap_Pending_h0 snap_Pending_o0 snap_Pending_e0) := snap_Pending_s0r x.1 x.2.1 x.2.2.1 x.2.2.2.1 x.2.2.2.2.1
def snap_Pending_l0 (x : snap_Pending_h0.T) : Option (LRes snap_Pending_o0 snap_Pending_e0) := iterL snap_Pending_s0 9223372036854775808 x
def snap_Pending_r (a0 : Heap) (a1 : List Mut) : Option ((List Val) × Unit) :=
 (snap_Pending_l0 (a1, (a1.length : Int), 0, a0, [], ())).bind fun s2 => match s2 with
 | .out s2 =>
  some (s2.1, ())
 | .ret s2 =>
  none
def snap_Pending (x : Heap × (List Mut) × Unit) : Option ((List Val) × Unit) := snap_Pending_r x.1 x.2.1
def snap_Pending_sm : Sum := ⟨(.cons cHeap (.cons (.sl cMut) .nil)), (.cons (.own cVal) .nil), snap_Pending⟩
def snap_Pending_L0 : LoopSum := { hc := ⟨[], [2, 5, 10, 11, 12], [(.tmp 5, cVal)], [], [0], [], 96⟩, h := ⟨[(2, (.pvar 0 [])), (5, (.row 96)), (10, (.d (.sl cMut))), (11, (.d cI)), (12, (.d cI))], [(0, (.d cHeap))], [(96, cVal, true)], 97, false⟩, xid := 0, oc := ⟨[], [5], [(.tmp 5, cVal)], [], [], [], 96⟩, o := ⟨[(5, (.row 96))], [], [(96, cVal, true)], 97, false⟩, rc := ⟨[], [], [], [], [96], [], 96⟩, r := ⟨[], [], [], 96, false⟩, F := snap_Pending_l0 }
def snap_Pending_c : Ctx := ⟨[(193, object_Field_sm)], [], [⟨8, 168, 0, 0, snap_Pending_L0⟩]⟩
theorem snap_Pending_sem : SemOf Tryz.prog 168 snap_Pending_sm := semC (c := snap_Pending_c) Tryz.func168 (sc object_Field_sem an) an (ec (aeC [true, true, false, true, false, false] snap_Pending_s0 Tryz.func168) an) 8
def snap_Begin_r (a0 : Rep) (a1 : Heap) (a2 : List Mut) : Option (Heap × Marker × Unit) :=
 (slices_Repeat ([a0.2.2.2.2.1], (a2.length : Int), ())).bind fun y1 =>
 (snap_Held (a2, ())).bind fun y2 =>
 (snap_Pending (a1, a2, ())).bind fun y3 =>
 (slices_Concat ([y2.1, y3.1], ())).bind fun y4 =>
 (mark_New (a0.2.2.2.1, y1.1, y4.1, ())).bind fun y5 =>
 (slices_Clone_uint64 (a1.1, ())).bind fun y6 =>
 (slices_Clone_api_Span (a1.2.1, ())).bind fun y7 =>
 some ((y6.1, y7.1, !a1.2.2.1, a1.2.2.2), ((y5.1.1.1, y5.1.1.2.1, y5.1.1.2.2), y5.1.2.1, y5.1.2.2.1, y5.1.2.2.2), ())
def snap_Begin (x : Rep × Heap × (List Mut) × Unit) : Option (Heap × Marker × Unit) := snap_Begin_r x.1 x.2.1 x.2.2.1
def snap_Begin_sm : Sum := ⟨(.cons cRep (.cons cHeap (.cons (.sl cMut) .nil))), (.cons (.cons (.own (.int .u64)) (.cons (.own cSpan) (.d (.cons .bool .nil)))) (.cons (.cons (.cons (.d cI) (.cons (.own cI) (.d .nil))) (.cons (.own cGrey) (.cons (.own cVal) (.d (.cons cI (.cons cI (.cons cI (.cons .bool .nil)))))))) .nil)), snap_Begin⟩
def snap_Begin_c : Ctx := ⟨[(137, slices_Clone_api_Span_sm), (151, slices_Clone_uint64_sm), (164, slices_Repeat_sm), (165, mark_New_sm), (166, slices_Concat_sm), (167, snap_Held_sm), (168, snap_Pending_sm)], [], []⟩
theorem snap_Begin_sem : SemOf Tryz.prog 147 snap_Begin_sm := semC (c := snap_Begin_c) Tryz.func147 (sc slices_Clone_api_Span_sem (sc slices_Clone_uint64_sem (sc slices_Repeat_sem (sc mark_New_sem (sc slices_Concat_sem (sc snap_Held_sem (sc snap_Pending_sem an))))))) an an 8
def cycle_idle_r (a0 : Wrld) : Option (Wrld × Int × Unit) :=
 bif !a0.2.2.2.2.2.1 then
  some (a0, 0, ())
 else
 (snap_Begin (a0.1, a0.2.1, a0.2.2.1, ())).bind fun y1 =>
 some ((a0.1, (y1.1.1, y1.1.2.1, y1.1.2.2), a0.2.2.1, ((y1.2.1.1.1, y1.2.1.1.2.1, y1.2.1.1.2.2), y1.2.1.2.1, y1.2.1.2.2.1, y1.2.1.2.2.2), 1, false, wi64 (a0.2.2.2.2.2.2.1 + 1), a0.2.2.2.2.2.2.2), 3, ())
def cycle_idle (x : Wrld × Unit) : Option (Wrld × Int × Unit) := cycle_idle_r x.1
def cycle_idle_sm : Sum := ⟨(.cons cWrld .nil), (.cons (.d cWrld) (.cons (.d cI) .nil)), cycle_idle⟩
def cycle_idle_c : Ctx := ⟨[(147, snap_Begin_sm)], [], []⟩
theorem cycle_idle_sem : SemOf Tryz.prog 132 cycle_idle_sm := semC (c := cycle_idle_c) Tryz.func132 (sc snap_Begin_sem an) an an 8
def sweep_Begin (_ : Heap × Unit) : Option (Heap × Unit) := none
def sweep_Begin_sm : Sum := ⟨(.cons cHeap .nil), (.cons (.d cHeap) .nil), sweep_Begin⟩
theorem sweep_Begin_sem : SemOf Tryz.prog 136 sweep_Begin_sm := semDead Tryz.func136 (fun _ => rfl)
def mark_Step (_ : Heap × Marker × Unit) : Option (Heap × Marker × Bool × Unit) := none
def mark_Step_sm : Sum := ⟨(.cons cHeap (.cons cMarker .nil)), (.cons (.d cHeap) (.cons (.d cMarker) (.cons (.d .bool) .nil))), mark_Step⟩
theorem mark_Step_sem : SemOf Tryz.prog 148 mark_Step_sm := semDead Tryz.func148 (fun _ => rfl)
abbrev slices_ConcatR_h0 : U := (.cons (.sl (.sl cRep)) (.cons cI (.cons (.sl (.sl cRep)) cVal)))
abbrev slices_ConcatR_o0 : U := (.cons (.sl (.sl cRep)) (.cons cI .nil))
abbrev slices_ConcatR_e0 : U := .nil
def slices_ConcatR_s0r (v0 : List (List Rep)) (v3 : Int) (v9 : List (List Rep)) (v10 : Int) (v11 : Int) : Option (SRes slices_ConcatR_h0 slices_ConcatR_o0 slices_ConcatR_e0) :=
 bif decide (v11 < v10) then
  bif decide (0 ≤ v11) then
   bif decide (v11 < (v9.length : Int)) then
    bif decide ((wi64 (v3 + ((v9.getD v11.toNat []).length : Int))) < 0) then none else
    some (.next (v0, wi64 (v3 + ((v9.getD v11.toNat []).length : Int)), v9, v10, wi64 (v11 + 1), ()))
   else none
  else none
 else
 some (.fin (.out (v0, v3, ())))
def slices_ConcatR_s0 (x : slices_ConcatR_h0.T) : Option (SRes slices_ConcatR_h0 slices_ConcatR_o0 slices_ConcatR_e0) := slices_ConcatR_s0r x.1 x.2.1 x.2.2.1 x.2.2.2.1 x.2.2.2.2.1
def slices_ConcatR_l0 (x : slices_ConcatR_h0.T) : Option (LRes slices_ConcatR_o0 slices_ConcatR_e0) := iterL slices_ConcatR_s0 9223372036854775808 x
abbrev slices_ConcatR_h1 : U := (.cons (.sl (.sl cRep)) (.cons cI (.cons cI (.cons (.sl cRep) .nil))))
abbrev slices_ConcatR_o1 : U := (.cons (.sl cRep) .nil)
abbrev slices_ConcatR_e1 : U := .nil
def slices_ConcatR_s1r (v25 : List (List Rep)) (v26 : Int) (v27 : Int) (r576 : List Rep) : Option (SRes slices_ConcatR_h1 slices_ConcatR_o1 slices_ConcatR_e1) :=
 bif decide (v27 < v26) then
  bif decide (0 ≤ v27) then
   bif decide (v27 < (v25.length : Int)) then
    bif decide ((r576.length + (v25.getD v27.toNat []).length) * 40 ≤ 140737488355328) then
     some (.next (v25, v26, wi64 (v27 + 1), r576 ++ (v25.getD v27.toNat []), ()))
    else none
   else none
  else none
 else
 some (.fin (.out (r576, ())))
def slices_ConcatR_s1 (x : slices_ConcatR_h1.T) : Option (SRes slices_ConcatR_h1 slices_ConcatR_o1 slices_ConcatR_e1) := slices_ConcatR_s1r x.1 x.2.1 x.2.2.1 x.2.2.2.1
def slices_ConcatR_l1 (x : slices_ConcatR_h1.T) : Option (LRes slices_ConcatR_o1 slices_ConcatR_e1) := iterL slices_ConcatR_s1 9223372036854775808 x
def slices_ConcatR_r (a0 : List (List Rep)) : Option ((List Rep) × Unit) :=
 (slices_ConcatR_l0 (a0, 0, a0, (a0.length : Int), 0, ())).bind fun s1 => match s1 with
 | .out s1 =>
  bif decide (s1.2.1 < 0) then none else
  bif decide ((wi64 (s1.2.1 - 0)) > 0) then
   bif decide (0 ≤ (wi64 (wi64 (s1.2.1 - 0)))) then
    bif decide ((wi64 (wi64 (s1.2.1 - 0))).toNat * 40 ≤ 140737488355328) then
     bif decide (0 ≤ ((List.replicate (wi64 (wi64 (s1.2.1 - 0))).toNat ((0, 0, 0, 0, 0, ()) : Rep)).length : Int)) then
      (slices_ConcatR_l1 (s1.1, (s1.1.length : Int), 0, ((List.replicate (wi64 (wi64 (s1.2.1 - 0))).toNat ((0, 0, 0, 0, 0, ()) : Rep)).drop 0).take 0, ())).bind fun s2 => match s2 with
      | .out s2 =>
       some (s2.1, ())
      | .ret s2 =>
       none
     else none
    else none
   else none
  else
  (slices_ConcatR_l1 (s1.1, (s1.1.length : Int), 0, [], ())).bind fun s3 => match s3 with
  | .out s3 =>
   some (s3.1, ())
  | .ret s3 =>
   none
 | .ret s1 =>
  none
def slices_ConcatR (x : (List (List Rep)) × Unit) : Option ((List Rep) × Unit) := slices_ConcatR_r x.1
def slices_ConcatR_sm : Sum := ⟨(.cons (.sl (.sl cRep)) .nil), (.cons (.own cRep) .nil), slices_ConcatR⟩
def slices_ConcatR_L0 : LoopSum := { hc := ⟨[], [0, 3, 9, 10, 11], [], [], [], [], 80⟩, h := ⟨[(0, (.d (.sl (.sl cRep)))), (3, (.d cI)), (9, (.d (.sl (.sl cRep)))), (10, (.d cI)), (11, (.d cI))], [], [], 80, false⟩, xid := 0, oc := ⟨[], [0, 3], [], [], [], [], 80⟩, o := ⟨[(0, (.d (.sl (.sl cRep)))), (3, (.d cI))], [], [], 80, false⟩, rc := ⟨[], [], [], [], [80], [], 80⟩, r := ⟨[], [], [], 80, false⟩, F := slices_ConcatR_l0 }
def slices_ConcatR_L1 : LoopSum := { hc := ⟨[], [6, 25, 26, 27], [(.tmp 6, cRep)], [], [], [], 576⟩, h := ⟨[(6, (.row 576)), (25, (.d (.sl (.sl cRep)))), (26, (.d cI)), (27, (.d cI))], [], [(576, cRep, true)], 577, false⟩, xid := 2, oc := ⟨[], [6], [(.tmp 6, cRep)], [], [], [], 576⟩, o := ⟨[(6, (.row 576))], [], [(576, cRep, true)], 577, false⟩, rc := ⟨[], [], [], [], [576], [], 576⟩, r := ⟨[], [], [], 576, false⟩, F := slices_ConcatR_l1 }
def slices_ConcatR_c : Ctx := ⟨[], [(175, Tryz.f175)], [⟨8, 149, 0, 0, slices_ConcatR_L0⟩, ⟨8, 149, 0, 2, slices_ConcatR_L1⟩]⟩
theorem slices_ConcatR_sem : SemOf Tryz.prog 149 slices_ConcatR_sm := semC (c := slices_ConcatR_c) Tryz.func149 an (fc (flC Tryz.func175) an) (ec (aeC [true, true, false, true, false, false] slices_ConcatR_s0 Tryz.func149) (ec (aeC [true, true, true, true, false, true, false, false] slices_ConcatR_s1 Tryz.func149) an)) 8
end
end Go.Proofs.YtpabbpncacnnfaaGreatDoor.Den
