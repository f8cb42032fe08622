/- What functions come to. Printed by a program of this session. -/
import Derived.Test.YtkjpakaidjpjgaaGreatDoorDfnF4
namespace Go.Proofs.YtkjpakaidjpjgaaGreatDoor.Dfn
open Go
set_option maxRecDepth 100000
set_option linter.unusedVariables false
noncomputable section
abbrev r20_Copied_h0 : U := (.cons cI (.cons cWrld (.cons cRep (.cons (.cons .bool .nil) (.cons cI (.cons .nil (.cons (.cons cI (.cons cI (.cons cI (.cons .bool .nil)))) (.cons cI (.cons .bool (.cons cI (.cons .nil (.cons cRep (.cons (.cons .bool .nil) (.cons cI (.cons .nil (.cons (.cons cI (.cons cI (.cons cI (.cons .bool .nil)))) (.cons cI (.cons .bool (.cons cI (.cons .nil (.cons (.sl (.int .u64)) (.cons (.sl cSpan) (.cons (.sl cMut) (.cons (.sl cRep) (.cons (.sl cVal) (.cons (.sl cI) (.cons (.sl cGrey) .nil)))))))))))))))))))))))))))
abbrev r20_Copied_o0 : U := (.cons cRep (.cons (.cons .bool .nil) (.cons cI (.cons .nil (.cons (.cons cI (.cons cI (.cons cI (.cons .bool .nil)))) (.cons cI (.cons .bool (.cons cI (.cons .nil (.cons cRep (.cons (.cons .bool .nil) (.cons cI (.cons .nil (.cons (.cons cI (.cons cI (.cons cI (.cons .bool .nil)))) (.cons cI (.cons .bool (.cons cI (.cons .nil (.cons (.sl (.int .u64)) (.cons (.sl cSpan) (.cons (.sl cMut) (.cons (.sl cRep) (.cons (.sl cVal) (.cons (.sl cI) (.cons (.sl cGrey) .nil)))))))))))))))))))))))))
abbrev r20_Copied_e0 : U := .nil
def r20_Copied_s0r (v4 : Int) (c0 : Wrld) (c16_0 : Rep) (c16_1 : Bool × Unit) (c16_2 : Int) (c16_3 : Unit) (c16_4 : Int × Int × Int × Bool × Unit) (c16_5 : Int) (c16_6 : Bool) (c16_7 : Int) (c16_8 : Unit) (c48_0 : Rep) (c48_1 : Bool × Unit) (c48_2 : Int) (c48_3 : Unit) (c48_4 : Int × Int × Int × Bool × Unit) (c48_5 : Int) (c48_6 : Bool) (c48_7 : Int) (c48_8 : Unit) (r144 : List Int) (r272 : List Span) (r368 : List Mut) (r464 : List Rep) (r576 : List Val) (r720 : List Int) (r864 : List Grey) : Option (SRes r20_Copied_h0 r20_Copied_o0 r20_Copied_e0) :=
 bif decide (v4 < (c0.2.2.2.1.2.1.length : Int)) then
  bif decide (0 ≤ v4) then
   bif decide (v4 < (c0.2.2.2.1.2.1.length : Int)) then
    bif decide (0 ≤ v4) then
     bif decide (v4 < (c0.2.2.2.1.2.1.length : Int)) then
      bif decide ((0 + (c0.2.2.2.1.2.1.getD v4.toNat (0, [], ())).2.1.length) * 8 ≤ 140737488355328) then
       bif decide ((r864.length + 1) * 32 ≤ 140737488355328) then
        some (.next (wi64 (v4 + 1), c0, c16_0, c16_1, c16_2, c16_3, c16_4, c16_5, c16_6, c16_7, c16_8, c48_0, c48_1, c48_2, c48_3, c48_4, c48_5, c48_6, c48_7, c48_8, r144, r272, r368, r464, r576, r720, r864 ++ [((c0.2.2.2.1.2.1.getD v4.toNat (0, [], ())).1, (c0.2.2.2.1.2.1.getD v4.toNat (0, [], ())).2.1, ())], ()))
       else none
      else none
     else none
    else none
   else none
  else none
 else
 some (.fin (.out (c16_0, c16_1, c16_2, c16_3, c16_4, c16_5, c16_6, c16_7, c16_8, c48_0, c48_1, c48_2, c48_3, c48_4, c48_5, c48_6, c48_7, c48_8, r144, r272, r368, r464, r576, r720, r864, ())))
def r20_Copied_s0 (x : r20_Copied_h0.T) : Option (SRes r20_Copied_h0 r20_Copied_o0 r20_Copied_e0) := r20_Copied_s0r x.1 x.2.1 x.2.2.1 x.2.2.2.1 x.2.2.2.2.1 x.2.2.2.2.2.1 x.2.2.2.2.2.2.1 x.2.2.2.2.2.2.2.1 x.2.2.2.2.2.2.2.2.1 x.2.2.2.2.2.2.2.2.2.1 x.2.2.2.2.2.2.2.2.2.2.1 x.2.2.2.2.2.2.2.2.2.2.2.1 x.2.2.2.2.2.2.2.2.2.2.2.2.1 x.2.2.2.2.2.2.2.2.2.2.2.2.2.1 x.2.2.2.2.2.2.2.2.2.2.2.2.2.2.1 x.2.2.2.2.2.2.2.2.2.2.2.2.2.2.2.1 x.2.2.2.2.2.2.2.2.2.2.2.2.2.2.2.2.1 x.2.2.2.2.2.2.2.2.2.2.2.2.2.2.2.2.2.1 x.2.2.2.2.2.2.2.2.2.2.2.2.2.2.2.2.2.2.1 x.2.2.2.2.2.2.2.2.2.2.2.2.2.2.2.2.2.2.2.1 x.2.2.2.2.2.2.2.2.2.2.2.2.2.2.2.2.2.2.2.2.1 x.2.2.2.2.2.2.2.2.2.2.2.2.2.2.2.2.2.2.2.2.2.1 x.2.2.2.2.2.2.2.2.2.2.2.2.2.2.2.2.2.2.2.2.2.2.1 x.2.2.2.2.2.2.2.2.2.2.2.2.2.2.2.2.2.2.2.2.2.2.2.1 x.2.2.2.2.2.2.2.2.2.2.2.2.2.2.2.2.2.2.2.2.2.2.2.2.1 x.2.2.2.2.2.2.2.2.2.2.2.2.2.2.2.2.2.2.2.2.2.2.2.2.2.1 x.2.2.2.2.2.2.2.2.2.2.2.2.2.2.2.2.2.2.2.2.2.2.2.2.2.2.1
def r20_Copied_l0 (x : r20_Copied_h0.T) : Option (LRes r20_Copied_o0 r20_Copied_e0) := iterL r20_Copied_s0 9223372036854775808 x
def r20_Copied_r (a0 : Wrld) : Option (Wrld × Unit) :=
 bif decide ((0 + a0.2.1.1.length) * 8 ≤ 140737488355328) then
  bif decide ((0 + a0.2.1.2.1.length) * 24 ≤ 140737488355328) then
   (r18_Copied (a0.2.2.1, ())).bind fun y1 =>
   bif decide ((0 + a0.2.2.2.2.2.2.2.1.length) * 40 ≤ 140737488355328) then
    bif decide ((0 + a0.2.2.2.1.2.2.1.length) * 16 ≤ 140737488355328) then
     bif decide ((0 + a0.2.2.2.1.1.2.1.length) * 8 ≤ 140737488355328) then
      (r20_Copied_l0 (0, a0, (0, 0, 0, 0, 0, ()), (false, ()), 0, (), (0, 0, 0, false, ()), 0, false, 0, (), a0.1, a0.2.1.2.2, a0.2.2.2.1.1.1, a0.2.2.2.1.1.2.2, a0.2.2.2.1.2.2.2, a0.2.2.2.2.1, a0.2.2.2.2.2.1, a0.2.2.2.2.2.2.1, a0.2.2.2.2.2.2.2.2, a0.2.1.1, a0.2.1.2.1, y1.1, a0.2.2.2.2.2.2.2.1, a0.2.2.2.1.2.2.1, a0.2.2.2.1.1.2.1, [], ())).bind fun s2 => match s2 with
      | .out s2 =>
       some ((s2.2.2.2.2.2.2.2.2.2.1, (s2.2.2.2.2.2.2.2.2.2.2.2.2.2.2.2.2.2.2.1, s2.2.2.2.2.2.2.2.2.2.2.2.2.2.2.2.2.2.2.2.1, s2.2.2.2.2.2.2.2.2.2.2.1), s2.2.2.2.2.2.2.2.2.2.2.2.2.2.2.2.2.2.2.2.2.1, ((s2.2.2.2.2.2.2.2.2.2.2.2.1, s2.2.2.2.2.2.2.2.2.2.2.2.2.2.2.2.2.2.2.2.2.2.2.2.1, s2.2.2.2.2.2.2.2.2.2.2.2.2.1), s2.2.2.2.2.2.2.2.2.2.2.2.2.2.2.2.2.2.2.2.2.2.2.2.2.1, s2.2.2.2.2.2.2.2.2.2.2.2.2.2.2.2.2.2.2.2.2.2.2.1, s2.2.2.2.2.2.2.2.2.2.2.2.2.2.1), s2.2.2.2.2.2.2.2.2.2.2.2.2.2.2.1, s2.2.2.2.2.2.2.2.2.2.2.2.2.2.2.2.1, s2.2.2.2.2.2.2.2.2.2.2.2.2.2.2.2.2.1, s2.2.2.2.2.2.2.2.2.2.2.2.2.2.2.2.2.2.2.2.2.2.1, s2.2.2.2.2.2.2.2.2.2.2.2.2.2.2.2.2.2.1), ())
      | .ret s2 =>
       none
     else none
    else none
   else none
  else none
 else none
def r20_Copied (x : Wrld × Unit) : Option (Wrld × Unit) := r20_Copied_r x.1
def r20_Copied_sm : Sum := ⟨(.cons cWrld .nil), (.cons (.cons (.d cRep) (.cons (.cons (.own (.int .u64)) (.cons (.own cSpan) (.d (.cons .bool .nil)))) (.cons (.own cMut) (.cons (.cons (.cons (.d cI) (.cons (.own cI) (.d .nil))) (.cons (.own cGrey) (.cons (.own cVal) (.d (.cons cI (.cons cI (.cons cI (.cons .bool .nil)))))))) (.cons (.d cI) (.cons (.d .bool) (.cons (.d cI) (.cons (.own cRep) (.d .nil))))))))) .nil), r20_Copied⟩
def r20_Copied_L0 : LoopSum := { hc := ⟨[], [1, 2, 3, 4], [(.key 48 [.fld 3, .fld 1], cGrey)], [], [0, 16, 48], [144, 272, 368, 464, 576, 720], 864⟩, h := ⟨[(1, (.pvar 0 [])), (2, (.pvar 16 [])), (3, (.pvar 48 [])), (4, (.d cI))], [(0, (.d cWrld)), (16, (.cons (.d cRep) (.cons (.cons .nilsl (.cons .nilsl (.d (.cons .bool .nil)))) (.cons .nilsl (.cons (.cons (.cons (.d cI) (.cons .nilsl (.d .nil))) (.cons .nilsl (.cons .nilsl (.d (.cons cI (.cons cI (.cons cI (.cons .bool .nil)))))))) (.cons (.d cI) (.cons (.d .bool) (.cons (.d cI) (.cons .nilsl (.d .nil)))))))))), (48, (.cons (.d cRep) (.cons (.cons (.row 144) (.cons (.row 272) (.d (.cons .bool .nil)))) (.cons (.row 368) (.cons (.cons (.cons (.d cI) (.cons (.row 720) (.d .nil))) (.cons (.row 864) (.cons (.row 576) (.d (.cons cI (.cons cI (.cons cI (.cons .bool .nil)))))))) (.cons (.d cI) (.cons (.d .bool) (.cons (.d cI) (.cons (.row 464) (.d .nil))))))))))], [(144, (.int .u64), true), (272, cSpan, true), (368, cMut, true), (464, cRep, true), (576, cVal, true), (720, cI, true), (864, cGrey, true)], 865⟩, xid := 0, oc := ⟨[], [2, 3], [(.ptr 3 [.fld 3, .fld 1], cGrey)], [], [16, 48], [144, 272, 368, 464, 576, 720], 864⟩, o := ⟨[(2, (.pvar 16 [])), (3, (.pvar 48 []))], [(16, (.cons (.d cRep) (.cons (.cons .nilsl (.cons .nilsl (.d (.cons .bool .nil)))) (.cons .nilsl (.cons (.cons (.cons (.d cI) (.cons .nilsl (.d .nil))) (.cons .nilsl (.cons .nilsl (.d (.cons cI (.cons cI (.cons cI (.cons .bool .nil)))))))) (.cons (.d cI) (.cons (.d .bool) (.cons (.d cI) (.cons .nilsl (.d .nil)))))))))), (48, (.cons (.d cRep) (.cons (.cons (.row 144) (.cons (.row 272) (.d (.cons .bool .nil)))) (.cons (.row 368) (.cons (.cons (.cons (.d cI) (.cons (.row 720) (.d .nil))) (.cons (.row 864) (.cons (.row 576) (.d (.cons cI (.cons cI (.cons cI (.cons .bool .nil)))))))) (.cons (.d cI) (.cons (.d .bool) (.cons (.d cI) (.cons (.row 464) (.d .nil))))))))))], [(144, (.int .u64), true), (272, cSpan, true), (368, cMut, true), (464, cRep, true), (576, cVal, true), (720, cI, true), (864, cGrey, true)], 865⟩, rc := ⟨[], [], [], [], [864], [], 864⟩, r := ⟨[], [], [], 864⟩, F := r20_Copied_l0 }
def r20_Copied_c : Ctx := ⟨[(35, r18_Copied_sm)], [], [⟨8, 12, 0, 0, r20_Copied_L0⟩]⟩
theorem r20_Copied_sem : SemOf Tryz.prog 12 r20_Copied_sm := semC (c := r20_Copied_c) Tryz.func12 (sc r18_Copied_sem an) an (ec (aeC [true, true, true, true, true, true, true, true, true, false, true, false, false] r20_Copied_s0 Tryz.func12) an) 8
abbrev r05_Same_h0 : U := (.cons (.sl (.int .u64)) (.cons (.sl (.int .u64)) (.cons cI .nil)))
abbrev r05_Same_o0 : U := .nil
abbrev r05_Same_e0 : U := (.cons .bool .nil)
def r05_Same_s0r (v0 : List Int) (v1 : List Int) (v5 : Int) : Option (SRes r05_Same_h0 r05_Same_o0 r05_Same_e0) :=
 bif decide (v5 < (v0.length : Int)) then
  bif decide (0 ≤ v5) then
   bif decide (v5 < (v0.length : Int)) then
    bif decide (0 ≤ v5) then
     bif decide (v5 < (v1.length : Int)) then
      bif (v0.getD v5.toNat 0) != (v1.getD v5.toNat 0) then
       some (.fin (.ret (false, ())))
      else
      some (.next (v0, v1, wi64 (v5 + 1), ()))
     else none
    else none
   else none
  else none
 else
 some (.fin (.out ()))
def r05_Same_s0 (x : r05_Same_h0.T) : Option (SRes r05_Same_h0 r05_Same_o0 r05_Same_e0) := r05_Same_s0r x.1 x.2.1 x.2.2.1
def r05_Same_l0 (x : r05_Same_h0.T) : Option (LRes r05_Same_o0 r05_Same_e0) := iterL r05_Same_s0 9223372036854775808 x
def r05_Same_r (a0 : List Int) (a1 : List Int) : Option (Bool × Unit) :=
 bif (a0.length : Int) != (a1.length : Int) then
  some (false, ())
 else
 (r05_Same_l0 (a0, a1, 0, ())).bind fun s1 => match s1 with
 | .out s1 =>
  some (true, ())
 | .ret s1 =>
  some (s1.1, ())
def r05_Same (x : (List Int) × (List Int) × Unit) : Option (Bool × Unit) := r05_Same_r x.1 x.2.1
def r05_Same_sm : Sum := ⟨(.cons (.sl (.int .u64)) (.cons (.sl (.int .u64)) .nil)), (.cons (.d .bool) .nil), r05_Same⟩
def r05_Same_L0 : LoopSum := { hc := ⟨[], [0, 1, 5], [], [], [], [], 112⟩, h := ⟨[(0, (.d (.sl (.int .u64)))), (1, (.d (.sl (.int .u64)))), (5, (.d cI))], [], [], 112⟩, xid := 0, oc := ⟨[], [], [], [], [], [], 112⟩, o := ⟨[], [], [], 112⟩, rc := ⟨[], [4], [], [], [], [], 112⟩, r := ⟨[(4, (.d .bool))], [], [], 112⟩, F := r05_Same_l0 }
def r05_Same_c : Ctx := ⟨[], [], [⟨8, 105, 0, 0, r05_Same_L0⟩]⟩
theorem r05_Same_sem : SemOf Tryz.prog 105 r05_Same_sm := semC (c := r05_Same_c) Tryz.func105 an an (ec (aeC [true, true, false, true, false, false] r05_Same_s0 Tryz.func105) an) 8
abbrev r07_Same_h0 : U := (.cons cI (.cons cHeap (.cons cHeap .nil)))
abbrev r07_Same_o0 : U := .nil
abbrev r07_Same_e0 : U := (.cons .bool .nil)
def r07_Same_s0r (v5 : Int) (c0 : Heap) (c16 : Heap) : Option (SRes r07_Same_h0 r07_Same_o0 r07_Same_e0) :=
 bif decide (v5 < (c0.2.1.length : Int)) then
  bif decide (0 ≤ v5) then
   bif decide (v5 < (c0.2.1.length : Int)) then
    bif decide (0 ≤ v5) then
     bif decide (v5 < (c16.2.1.length : Int)) then
      bif !(((c0.2.1.getD v5.toNat (0, 0, 0, ())).1 == (c16.2.1.getD v5.toNat (0, 0, 0, ())).1) && (((c0.2.1.getD v5.toNat (0, 0, 0, ())).2.1 == (c16.2.1.getD v5.toNat (0, 0, 0, ())).2.1) && (((c0.2.1.getD v5.toNat (0, 0, 0, ())).2.2.1 == (c16.2.1.getD v5.toNat (0, 0, 0, ())).2.2.1) && true))) then
       some (.fin (.ret (false, ())))
      else
      some (.next (wi64 (v5 + 1), c0, c16, ()))
     else none
    else none
   else none
  else none
 else
 some (.fin (.out ()))
def r07_Same_s0 (x : r07_Same_h0.T) : Option (SRes r07_Same_h0 r07_Same_o0 r07_Same_e0) := r07_Same_s0r x.1 x.2.1 x.2.2.1
def r07_Same_l0 (x : r07_Same_h0.T) : Option (LRes r07_Same_o0 r07_Same_e0) := iterL r07_Same_s0 9223372036854775808 x
def r07_Same_r (a0 : Heap) (a1 : Heap) : Option (Bool × Unit) :=
 bif !(a0.2.2.1 == a1.2.2.1) then
  some (false, ())
 else
 bif (a0.2.1.length : Int) != (a1.2.1.length : Int) then
  some (false, ())
 else
 (r05_Same (a0.1, a1.1, ())).bind fun y1 =>
 bif !y1.1 then
  some (false, ())
 else
 (r07_Same_l0 (0, a0, a1, ())).bind fun s2 => match s2 with
 | .out s2 =>
  some (true, ())
 | .ret s2 =>
  some (s2.1, ())
def r07_Same (x : Heap × Heap × Unit) : Option (Bool × Unit) := r07_Same_r x.1 x.2.1
def r07_Same_sm : Sum := ⟨(.cons cHeap (.cons cHeap .nil)), (.cons (.d .bool) .nil), r07_Same⟩
def r07_Same_L0 : LoopSum := { hc := ⟨[], [2, 3, 5], [], [], [0, 16], [], 416⟩, h := ⟨[(2, (.pvar 0 [])), (3, (.pvar 16 [])), (5, (.d cI))], [(0, (.d cHeap)), (16, (.d cHeap))], [], 416⟩, xid := 0, oc := ⟨[], [], [], [], [], [], 416⟩, o := ⟨[], [], [], 416⟩, rc := ⟨[], [4], [], [], [], [], 416⟩, r := ⟨[(4, (.d .bool))], [], [], 416⟩, F := r07_Same_l0 }
def r07_Same_c : Ctx := ⟨[(105, r05_Same_sm)], [], [⟨8, 42, 0, 0, r07_Same_L0⟩]⟩
theorem r07_Same_sem : SemOf Tryz.prog 42 r07_Same_sm := semC (c := r07_Same_c) Tryz.func42 (sc r05_Same_sem an) an (ec (aeC [true, true, false, true, false, false] r07_Same_s0 Tryz.func42) an) 8
def r18_Same_r (a0 : Mut) (a1 : Mut) : Option (Bool × Unit) :=
 (r01_Same (a0.1, a1.1, ())).bind fun y1 =>
 bif y1.1 then
  bif a0.2.1 == a1.2.1 then
   bif (a0.2.2.1.1 == a1.2.2.1.1) && ((a0.2.2.1.2.1 == a1.2.2.1.2.1) && ((a0.2.2.1.2.2.1 == a1.2.2.1.2.2.1) && ((a0.2.2.1.2.2.2.1 == a1.2.2.1.2.2.2.1) && true))) then
    bif a0.2.2.2.1 == a1.2.2.2.1 then
     bif (a0.2.2.2.2.1.1 == a1.2.2.2.2.1.1) && ((a0.2.2.2.2.1.2.1 == a1.2.2.2.2.1.2.1) && true) then
      some ((List.zip a0.2.2.2.2.2.1 a1.2.2.2.2.2.1).all fun p => p.1 == p.2, ())
     else
     some (false, ())
    else
    some (false, ())
   else
   some (false, ())
  else
  some (false, ())
 else
 some (false, ())
def r18_Same (x : Mut × Mut × Unit) : Option (Bool × Unit) := r18_Same_r x.1 x.2.1
def r18_Same_sm : Sum := ⟨(.cons cMut (.cons cMut .nil)), (.cons (.d .bool) .nil), r18_Same⟩
def r18_Same_c : Ctx := ⟨[(33, r01_Same_sm)], [], []⟩
theorem r18_Same_sem : SemOf Tryz.prog 106 r18_Same_sm := semC (c := r18_Same_c) Tryz.func106 (sc r01_Same_sem an) an an 8
abbrev r18_Sames_h0 : U := (.cons (.sl cMut) (.cons (.sl cMut) (.cons cI .nil)))
abbrev r18_Sames_o0 : U := .nil
abbrev r18_Sames_e0 : U := (.cons .bool .nil)
def r18_Sames_s0r (v0 : List Mut) (v1 : List Mut) (v5 : Int) : Option (SRes r18_Sames_h0 r18_Sames_o0 r18_Sames_e0) :=
 bif decide (v5 < (v0.length : Int)) then
  bif decide (0 ≤ v5) then
   bif decide (v5 < (v0.length : Int)) then
    bif decide (0 ≤ v5) then
     bif decide (v5 < (v1.length : Int)) then
      (r18_Same (v0.getD v5.toNat ([], 0, (0, 0, 0, 0, ()), 0, (0, 0, ()), List.replicate 4 0, ()), v1.getD v5.toNat ([], 0, (0, 0, 0, 0, ()), 0, (0, 0, ()), List.replicate 4 0, ()), ())).bind fun y1 =>
      bif !y1.1 then
       some (.fin (.ret (false, ())))
      else
      some (.next (v0, v1, wi64 (v5 + 1), ()))
     else none
    else none
   else none
  else none
 else
 some (.fin (.out ()))
def r18_Sames_s0 (x : r18_Sames_h0.T) : Option (SRes r18_Sames_h0 r18_Sames_o0 r18_Sames_e0) := r18_Sames_s0r x.1 x.2.1 x.2.2.1
def r18_Sames_l0 (x : r18_Sames_h0.T) : Option (LRes r18_Sames_o0 r18_Sames_e0) := iterL r18_Sames_s0 9223372036854775808 x
def r18_Sames_r (a0 : List Mut) (a1 : List Mut) : Option (Bool × Unit) :=
 bif (a0.length : Int) != (a1.length : Int) then
  some (false, ())
 else
 (r18_Sames_l0 (a0, a1, 0, ())).bind fun s2 => match s2 with
 | .out s2 =>
  some (true, ())
 | .ret s2 =>
  some (s2.1, ())
def r18_Sames (x : (List Mut) × (List Mut) × Unit) : Option (Bool × Unit) := r18_Sames_r x.1 x.2.1
def r18_Sames_sm : Sum := ⟨(.cons (.sl cMut) (.cons (.sl cMut) .nil)), (.cons (.d .bool) .nil), r18_Sames⟩
def r18_Sames_L0 : LoopSum := { hc := ⟨[], [0, 1, 5], [], [], [], [], 112⟩, h := ⟨[(0, (.d (.sl cMut))), (1, (.d (.sl cMut))), (5, (.d cI))], [], [], 112⟩, xid := 0, oc := ⟨[], [], [], [], [], [], 112⟩, o := ⟨[], [], [], 112⟩, rc := ⟨[], [4], [], [], [], [], 112⟩, r := ⟨[(4, (.d .bool))], [], [], 112⟩, F := r18_Sames_l0 }
def r18_Sames_c : Ctx := ⟨[(106, r18_Same_sm)], [], [⟨8, 43, 0, 0, r18_Sames_L0⟩]⟩
theorem r18_Sames_sem : SemOf Tryz.prog 43 r18_Sames_sm := semC (c := r18_Sames_c) Tryz.func43 (sc r18_Same_sem an) an (ec (aeC [true, true, false, true, false, false] r18_Sames_s0 Tryz.func43) an) 8
abbrev r08_Ints_h0 : U := (.cons (.sl cI) (.cons (.sl cI) (.cons cI .nil)))
abbrev r08_Ints_o0 : U := .nil
abbrev r08_Ints_e0 : U := (.cons .bool .nil)
def r08_Ints_s0r (v0 : List Int) (v1 : List Int) (v5 : Int) : Option (SRes r08_Ints_h0 r08_Ints_o0 r08_Ints_e0) :=
 bif decide (v5 < (v0.length : Int)) then
  bif decide (0 ≤ v5) then
   bif decide (v5 < (v0.length : Int)) then
    bif decide (0 ≤ v5) then
     bif decide (v5 < (v1.length : Int)) then
      bif (v0.getD v5.toNat 0) != (v1.getD v5.toNat 0) then
       some (.fin (.ret (false, ())))
      else
      some (.next (v0, v1, wi64 (v5 + 1), ()))
     else none
    else none
   else none
  else none
 else
 some (.fin (.out ()))
def r08_Ints_s0 (x : r08_Ints_h0.T) : Option (SRes r08_Ints_h0 r08_Ints_o0 r08_Ints_e0) := r08_Ints_s0r x.1 x.2.1 x.2.2.1
def r08_Ints_l0 (x : r08_Ints_h0.T) : Option (LRes r08_Ints_o0 r08_Ints_e0) := iterL r08_Ints_s0 9223372036854775808 x
def r08_Ints_r (a0 : List Int) (a1 : List Int) : Option (Bool × Unit) :=
 bif (a0.length : Int) != (a1.length : Int) then
  some (false, ())
 else
 (r08_Ints_l0 (a0, a1, 0, ())).bind fun s1 => match s1 with
 | .out s1 =>
  some (true, ())
 | .ret s1 =>
  some (s1.1, ())
def r08_Ints (x : (List Int) × (List Int) × Unit) : Option (Bool × Unit) := r08_Ints_r x.1 x.2.1
def r08_Ints_sm : Sum := ⟨(.cons (.sl cI) (.cons (.sl cI) .nil)), (.cons (.d .bool) .nil), r08_Ints⟩
def r08_Ints_L0 : LoopSum := { hc := ⟨[], [0, 1, 5], [], [], [], [], 112⟩, h := ⟨[(0, (.d (.sl cI))), (1, (.d (.sl cI))), (5, (.d cI))], [], [], 112⟩, xid := 0, oc := ⟨[], [], [], [], [], [], 112⟩, o := ⟨[], [], [], 112⟩, rc := ⟨[], [4], [], [], [], [], 112⟩, r := ⟨[(4, (.d .bool))], [], [], 112⟩, F := r08_Ints_l0 }
def r08_Ints_c : Ctx := ⟨[], [], [⟨8, 186, 0, 0, r08_Ints_L0⟩]⟩
theorem r08_Ints_sem : SemOf Tryz.prog 186 r08_Ints_sm := semC (c := r08_Ints_c) Tryz.func186 an an (ec (aeC [true, true, false, true, false, false] r08_Ints_s0 Tryz.func186) an) 8
def r13_Same_r (a0 : Grey) (a1 : Grey) : Option (Bool × Unit) :=
 bif a0.1 == a1.1 then
  (r08_Ints (a0.2.1, a1.2.1, ())).bind fun y1 =>
  some (y1.1, ())
 else
 some (false, ())
def r13_Same (x : Grey × Grey × Unit) : Option (Bool × Unit) := r13_Same_r x.1 x.2.1
def r13_Same_sm : Sum := ⟨(.cons cGrey (.cons cGrey .nil)), (.cons (.d .bool) .nil), r13_Same⟩
def r13_Same_c : Ctx := ⟨[(186, r08_Ints_sm)], [], []⟩
theorem r13_Same_sem : SemOf Tryz.prog 107 r13_Same_sm := semC (c := r13_Same_c) Tryz.func107 (sc r08_Ints_sem an) an an 8
abbrev r17_Same_h0 : U := (.cons cI (.cons cMarker (.cons cMarker .nil)))
abbrev r17_Same_o0 : U := .nil
abbrev r17_Same_e0 : U := (.cons .bool .nil)
def r17_Same_s0r (v5 : Int) (c0 : Marker) (c16 : Marker) : Option (SRes r17_Same_h0 r17_Same_o0 r17_Same_e0) :=
 bif decide (v5 < (c0.2.1.length : Int)) then
  bif decide (0 ≤ v5) then
   bif decide (v5 < (c0.2.1.length : Int)) then
    bif decide (0 ≤ v5) then
     bif decide (v5 < (c16.2.1.length : Int)) then
      (r13_Same (c0.2.1.getD v5.toNat (0, [], ()), c16.2.1.getD v5.toNat (0, [], ()), ())).bind fun y3 =>
      bif !y3.1 then
       some (.fin (.ret (false, ())))
      else
      some (.next (wi64 (v5 + 1), c0, c16, ()))
     else none
    else none
   else none
  else none
 else
 some (.fin (.out ()))
def r17_Same_s0 (x : r17_Same_h0.T) : Option (SRes r17_Same_h0 r17_Same_o0 r17_Same_e0) := r17_Same_s0r x.1 x.2.1 x.2.2.1
def r17_Same_l0 (x : r17_Same_h0.T) : Option (LRes r17_Same_o0 r17_Same_e0) := iterL r17_Same_s0 9223372036854775808 x
def r17_Same_r (a0 : Marker) (a1 : Marker) : Option (Bool × Unit) :=
 bif a0.2.2.2.1 != a1.2.2.2.1 then
  some (false, ())
 else
 bif a0.2.2.2.2.1 != a1.2.2.2.2.1 then
  some (false, ())
 else
 bif a0.2.2.2.2.2.1 != a1.2.2.2.2.2.1 then
  some (false, ())
 else
 bif !(a0.2.2.2.2.2.2.1 == a1.2.2.2.2.2.2.1) then
  some (false, ())
 else
 (r13_Same (a0.1, a1.1, ())).bind fun y1 =>
 bif !y1.1 then
  some (false, ())
 else
 (r01_Same (a0.2.2.1, a1.2.2.1, ())).bind fun y2 =>
 bif !y2.1 then
  some (false, ())
 else
 bif (a0.2.1.length : Int) != (a1.2.1.length : Int) then
  some (false, ())
 else
 (r17_Same_l0 (0, a0, a1, ())).bind fun s4 => match s4 with
 | .out s4 =>
  some (true, ())
 | .ret s4 =>
  some (s4.1, ())
def r17_Same (x : Marker × Marker × Unit) : Option (Bool × Unit) := r17_Same_r x.1 x.2.1
def r17_Same_sm : Sum := ⟨(.cons cMarker (.cons cMarker .nil)), (.cons (.d .bool) .nil), r17_Same⟩
def r17_Same_L0 : LoopSum := { hc := ⟨[], [2, 3, 5], [], [], [0, 16], [], 880⟩, h := ⟨[(2, (.pvar 0 [])), (3, (.pvar 16 [])), (5, (.d cI))], [(0, (.d cMarker)), (16, (.d cMarker))], [], 880⟩, xid := 0, oc := ⟨[], [], [], [], [], [], 880⟩, o := ⟨[], [], [], 880⟩, rc := ⟨[], [4], [], [], [], [], 880⟩, r := ⟨[(4, (.d .bool))], [], [], 880⟩, F := r17_Same_l0 }
def r17_Same_c : Ctx := ⟨[(33, r01_Same_sm), (107, r13_Same_sm)], [], [⟨8, 44, 0, 0, r17_Same_L0⟩]⟩
theorem r17_Same_sem : SemOf Tryz.prog 44 r17_Same_sm := semC (c := r17_Same_c) Tryz.func44 (sc r01_Same_sem (sc r13_Same_sem an)) an (ec (aeC [true, true, false, true, false, false] r17_Same_s0 Tryz.func44) an) 8
abbrev r20_Same_h0 : U := (.cons cI (.cons cWrld (.cons cWrld .nil)))
abbrev r20_Same_o0 : U := .nil
abbrev r20_Same_e0 : U := (.cons .bool .nil)
def r20_Same_s0r (v5 : Int) (c0 : Wrld) (c16 : Wrld) : Option (SRes r20_Same_h0 r20_Same_o0 r20_Same_e0) :=
 bif decide (v5 < (c0.2.2.2.2.2.2.2.1.length : Int)) then
  bif decide (0 ≤ v5) then
   bif decide (v5 < (c0.2.2.2.2.2.2.2.1.length : Int)) then
    bif decide (0 ≤ v5) then
     bif decide (v5 < (c16.2.2.2.2.2.2.2.1.length : Int)) then
      bif !(((c0.2.2.2.2.2.2.2.1.getD v5.toNat (0, 0, 0, 0, 0, ())).1 == (c16.2.2.2.2.2.2.2.1.getD v5.toNat (0, 0, 0, 0, 0, ())).1) && (((c0.2.2.2.2.2.2.2.1.getD v5.toNat (0, 0, 0, 0, 0, ())).2.1 == (c16.2.2.2.2.2.2.2.1.getD v5.toNat (0, 0, 0, 0, 0, ())).2.1) && (((c0.2.2.2.2.2.2.2.1.getD v5.toNat (0, 0, 0, 0, 0, ())).2.2.1 == (c16.2.2.2.2.2.2.2.1.getD v5.toNat (0, 0, 0, 0, 0, ())).2.2.1) && (((c0.2.2.2.2.2.2.2.1.getD v5.toNat (0, 0, 0, 0, 0, ())).2.2.2.1 == (c16.2.2.2.2.2.2.2.1.getD v5.toNat (0, 0, 0, 0, 0, ())).2.2.2.1) && (((c0.2.2.2.2.2.2.2.1.getD v5.toNat (0, 0, 0, 0, 0, ())).2.2.2.2.1 == (c16.2.2.2.2.2.2.2.1.getD v5.toNat (0, 0, 0, 0, 0, ())).2.2.2.2.1) && true))))) then
       some (.fin (.ret (false, ())))
      else
      some (.next (wi64 (v5 + 1), c0, c16, ()))
     else none
    else none
   else none
  else none
 else
 some (.fin (.out ()))
def r20_Same_s0 (x : r20_Same_h0.T) : Option (SRes r20_Same_h0 r20_Same_o0 r20_Same_e0) := r20_Same_s0r x.1 x.2.1 x.2.2.1
def r20_Same_l0 (x : r20_Same_h0.T) : Option (LRes r20_Same_o0 r20_Same_e0) := iterL r20_Same_s0 9223372036854775808 x
def r20_Same_r (a0 : Wrld) (a1 : Wrld) : Option (Bool × Unit) :=
 bif !((a0.1.1 == a1.1.1) && ((a0.1.2.1 == a1.1.2.1) && ((a0.1.2.2.1 == a1.1.2.2.1) && ((a0.1.2.2.2.1 == a1.1.2.2.2.1) && ((a0.1.2.2.2.2.1 == a1.1.2.2.2.2.1) && true))))) then
  some (false, ())
 else
 bif a0.2.2.2.2.1 != a1.2.2.2.2.1 then
  some (false, ())
 else
 bif !(a0.2.2.2.2.2.1 == a1.2.2.2.2.2.1) then
  some (false, ())
 else
 bif a0.2.2.2.2.2.2.1 != a1.2.2.2.2.2.2.1 then
  some (false, ())
 else
 bif (a0.2.2.2.2.2.2.2.1.length : Int) != (a1.2.2.2.2.2.2.2.1.length : Int) then
  some (false, ())
 else
 (r07_Same (a0.2.1, a1.2.1, ())).bind fun y1 =>
 bif !y1.1 then
  some (false, ())
 else
 (r18_Sames (a0.2.2.1, a1.2.2.1, ())).bind fun y2 =>
 bif !y2.1 then
  some (false, ())
 else
 (r17_Same (a0.2.2.2.1, a1.2.2.2.1, ())).bind fun y3 =>
 bif !y3.1 then
  some (false, ())
 else
 (r20_Same_l0 (0, a0, a1, ())).bind fun s4 => match s4 with
 | .out s4 =>
  some (true, ())
 | .ret s4 =>
  some (s4.1, ())
def r20_Same (x : Wrld × Wrld × Unit) : Option (Bool × Unit) := r20_Same_r x.1 x.2.1
def r20_Same_sm : Sum := ⟨(.cons cWrld (.cons cWrld .nil)), (.cons (.d .bool) .nil), r20_Same⟩
def r20_Same_L0 : LoopSum := { hc := ⟨[], [2, 3, 5], [], [], [0, 16], [], 1008⟩, h := ⟨[(2, (.pvar 0 [])), (3, (.pvar 16 [])), (5, (.d cI))], [(0, (.d cWrld)), (16, (.d cWrld))], [], 1008⟩, xid := 0, oc := ⟨[], [], [], [], [], [], 1008⟩, o := ⟨[], [], [], 1008⟩, rc := ⟨[], [4], [], [], [], [], 1008⟩, r := ⟨[(4, (.d .bool))], [], [], 1008⟩, F := r20_Same_l0 }
def r20_Same_c : Ctx := ⟨[(42, r07_Same_sm), (43, r18_Sames_sm), (44, r17_Same_sm)], [], [⟨8, 14, 0, 0, r20_Same_L0⟩]⟩
theorem r20_Same_sem : SemOf Tryz.prog 14 r20_Same_sm := semC (c := r20_Same_c) Tryz.func14 (sc r07_Same_sem (sc r18_Sames_sem (sc r17_Same_sem an))) an (ec (aeC [true, true, false, true, false, false] r20_Same_s0 Tryz.func14) an) 8
def r14_Slot_r (a0 : List Val) (a1 : Int) : Option (Val × Int × Unit) :=
 bif decide (a1 < 0) then
  some ((0, 0, ()), 3, ())
 else
 bif decide (a1 ≥ (a0.length : Int)) then
  some ((0, 0, ()), 3, ())
 else
 bif decide (0 ≤ a1) then
  bif decide (a1 < (a0.length : Int)) then
   some (a0.getD a1.toNat (0, 0, ()), 0, ())
  else none
 else none
def r14_Slot (x : (List Val) × Int × Unit) : Option (Val × Int × Unit) := r14_Slot_r x.1 x.2.1
def r14_Slot_sm : Sum := ⟨(.cons (.sl cVal) (.cons cI .nil)), (.cons (.d cVal) (.cons (.d cI) .nil)), r14_Slot⟩
def r14_Slot_c : Ctx := ⟨[], [], []⟩
theorem r14_Slot_sem : SemOf Tryz.prog 110 r14_Slot_sm := semC (c := r14_Slot_c) Tryz.func110 an an an 8
def r14_Object_r (a0 : List Val) (a1 : Int) : Option Val :=
 (r14_Slot (a0, a1, ())).bind fun y1 =>
 bif y1.2.1 != 0 then
  some (0, y1.2.1, ())
 else
 bif y1.1.1 == 0 then
  some (0, 2, ())
 else
 bif y1.1.1 != 2 then
  some (0, 7, ())
 else
 some (y1.1.2.1, 0, ())
def r14_Object (x : (List Val) × Int × Unit) : Option Val := r14_Object_r x.1 x.2.1
def r14_Object_sm : Sum := ⟨(.cons (.sl cVal) (.cons cI .nil)), (.cons (.d cI) (.cons (.d cI) .nil)), r14_Object⟩
def r14_Object_c : Ctx := ⟨[(110, r14_Slot_sm)], [], []⟩
theorem r14_Object_sem : SemOf Tryz.prog 108 r14_Object_sm := semC (c := r14_Object_c) Tryz.func108 (sc r14_Slot_sem an) an an 8
def r19_Check_r (a0 : Heap) (a1 : List Val) (a2 : Int) (a3 : Int × Int × Val) : Option (Int × Unit) :=
 bif decide ((a1.length : Int) ≥ a2) then
  bif a3.1 == 0 then
   bif decide (a3.2.1 < 0) then
    some (1, ())
   else
   bif decide (a3.2.1 > 15) then
    some (1, ())
   else
   some (5, ())
  else
  bif a3.1 == 1 then
   (r14_Object (a1, a3.2.1, ())).bind fun y1 =>
   bif y1.2.1 != 0 then
    some (y1.2.1, ())
   else
   (r08_Field (a0, y1.1, a3.2.2.1, ())).bind fun y2 =>
   bif y2.2.1 != 0 then
    some (y2.2.1, ())
   else
   bif a3.1 == 1 then
    some (5, ())
   else
   (r14_Slot (a1, a3.2.2.2.1, ())).bind fun y3 =>
   some (y3.2.1, ())
  else
  bif a3.1 == 2 then
   (r14_Object (a1, a3.2.1, ())).bind fun y4 =>
   bif y4.2.1 != 0 then
    some (y4.2.1, ())
   else
   (r08_Field (a0, y4.1, a3.2.2.1, ())).bind fun y5 =>
   bif y5.2.1 != 0 then
    some (y5.2.1, ())
   else
   bif a3.1 == 1 then
    some (5, ())
   else
   (r14_Slot (a1, a3.2.2.2.1, ())).bind fun y6 =>
   some (y6.2.1, ())
  else
  bif a3.1 == 3 then
   (r14_Slot (a1, a3.2.1, ())).bind fun y7 =>
   bif y7.2.1 != 0 then
    some (y7.2.1, ())
   else
   some (5, ())
  else
  bif a3.1 == 4 then
   bif decide (a3.2.1 < 0) then
    some (1, ())
   else
   bif decide (a3.2.1 > 1099511627776) then
    some (1, ())
   else
   some (5, ())
  else
  bif a3.1 == 5 then
   bif (a1.length : Int) == 0 then
    some (3, ())
   else
   some (0, ())
  else
  bif a3.1 == 6 then
   some (0, ())
  else
  some (1, ())
 else
 bif a3.1 == 0 then
  bif decide (a3.2.1 < 0) then
   some (1, ())
  else
  bif decide (a3.2.1 > 15) then
   some (1, ())
  else
  some (0, ())
 else
 bif a3.1 == 1 then
  (r14_Object (a1, a3.2.1, ())).bind fun y8 =>
  bif y8.2.1 != 0 then
   some (y8.2.1, ())
  else
  (r08_Field (a0, y8.1, a3.2.2.1, ())).bind fun y9 =>
  bif y9.2.1 != 0 then
   some (y9.2.1, ())
  else
  bif a3.1 == 1 then
   some (0, ())
  else
  (r14_Slot (a1, a3.2.2.2.1, ())).bind fun y10 =>
  some (y10.2.1, ())
 else
 bif a3.1 == 2 then
  (r14_Object (a1, a3.2.1, ())).bind fun y11 =>
  bif y11.2.1 != 0 then
   some (y11.2.1, ())
  else
  (r08_Field (a0, y11.1, a3.2.2.1, ())).bind fun y12 =>
  bif y12.2.1 != 0 then
   some (y12.2.1, ())
  else
  bif a3.1 == 1 then
   some (0, ())
  else
  (r14_Slot (a1, a3.2.2.2.1, ())).bind fun y13 =>
  some (y13.2.1, ())
 else
 bif a3.1 == 3 then
  (r14_Slot (a1, a3.2.1, ())).bind fun y14 =>
  bif y14.2.1 != 0 then
   some (y14.2.1, ())
  else
  some (0, ())
 else
 bif a3.1 == 4 then
  bif decide (a3.2.1 < 0) then
   some (1, ())
  else
  bif decide (a3.2.1 > 1099511627776) then
   some (1, ())
  else
  some (0, ())
 else
 bif a3.1 == 5 then
  bif (a1.length : Int) == 0 then
   some (3, ())
  else
  some (0, ())
 else
 bif a3.1 == 6 then
  some (0, ())
 else
 some (1, ())
def r19_Check (x : Heap × (List Val) × Int × (Int × Int × Val) × Unit) : Option (Int × Unit) := r19_Check_r x.1 x.2.1 x.2.2.1 x.2.2.2.1
def r19_Check_sm : Sum := ⟨(.cons cHeap (.cons (.sl cVal) (.cons cI (.cons (.cons cI (.cons cI cVal)) .nil)))), (.cons (.d cI) .nil), r19_Check⟩
def r19_Check_c : Ctx := ⟨[(108, r14_Object_sm), (109, r08_Field_sm), (110, r14_Slot_sm)], [], []⟩
theorem r19_Check_sem : SemOf Tryz.prog 45 r19_Check_sm := semC (c := r19_Check_c) Tryz.func45 (sc r14_Object_sem (sc r08_Field_sem (sc r14_Slot_sem an))) an an 8
def r21_with_r (a0 : Wrld) (a1 : Int) (a2 : Mut) : Option (Wrld × Unit) :=
 (r18_Copied (a0.2.2.1, ())).bind fun y1 =>
 bif decide (0 ≤ a1) then
  bif decide (a1 < (y1.1.length : Int)) then
   some ((a0.1, a0.2.1, y1.1.set a1.toNat a2, a0.2.2.2), ())
  else none
 else none
def r21_with (x : Wrld × Int × Mut × Unit) : Option (Wrld × Unit) := r21_with_r x.1 x.2.1 x.2.2.1
def r21_with_sm : Sum := ⟨(.cons cWrld (.cons cI (.cons cMut .nil))), (.cons (.cons (.d cRep) (.cons (.d cHeap) (.cons (.own cMut) (.d (.cons cMarker (.cons cI (.cons .bool (.cons cI (.cons (.sl cRep) .nil))))))))) .nil), r21_with⟩
def r21_with_c : Ctx := ⟨[(35, r18_Copied_sm)], [], []⟩
theorem r21_with_sem : SemOf Tryz.prog 50 r21_with_sm := semC (c := r21_with_c) Tryz.func50 (sc r18_Copied_sem an) an an 8
def r21_done_r (a0 : Wrld) (a1 : Int) (a2 : List Val) (a3 : Int) (a4 : Val) : Option (Wrld × (Int × Int × Int × Val × Unit) × Unit) :=
 bif decide (0 ≤ a1) then
  bif decide (a1 < (a0.2.2.1.length : Int)) then
   (r21_with (a0, a1, (a2, 0, (0, 0, 0, 0, ()), 0, (0, 0, ()), (a0.2.2.1.getD a1.toNat ([], 0, (0, 0, 0, 0, ()), 0, (0, 0, ()), List.replicate 4 0, ())).2.2.2.2.2.1, ()), ())).bind fun y1 =>
   some ((y1.1.1, y1.1.2.1, y1.1.2.2.1, y1.1.2.2.2), (a1, 2, a3, a4, ()), ())
  else none
 else none
def r21_done (x : Wrld × Int × (List Val) × Int × Val × Unit) : Option (Wrld × (Int × Int × Int × Val × Unit) × Unit) := r21_done_r x.1 x.2.1 x.2.2.1 x.2.2.2.1 x.2.2.2.2.1
def r21_done_sm : Sum := ⟨(.cons cWrld (.cons cI (.cons (.sl cVal) (.cons cI (.cons cVal .nil))))), (.cons (.cons (.d cRep) (.cons (.d cHeap) (.cons (.own cMut) (.d (.cons cMarker (.cons cI (.cons .bool (.cons cI (.cons (.sl cRep) .nil))))))))) (.cons (.cons (.d cI) (.cons (.d cI) (.cons (.d cI) (.cons (.d cVal) .nil)))) .nil)), r21_done⟩
def r21_done_c : Ctx := ⟨[(50, r21_with_sm)], [], []⟩
theorem r21_done_sem : SemOf Tryz.prog 46 r21_done_sm := semC (c := r21_done_c) Tryz.func46 (sc r21_with_sem an) an an 8
abbrev r12_Dirty_h0 : U := (.cons cI (.cons cI (.cons cHeap .nil)))
abbrev r12_Dirty_o0 : U := (.cons cI .nil)
abbrev r12_Dirty_e0 : U := .nil
def r12_Dirty_s0r (v3 : Int) (v4 : Int) (c0 : Heap) : Option (SRes r12_Dirty_h0 r12_Dirty_o0 r12_Dirty_e0) :=
 bif decide (v4 < (c0.2.1.length : Int)) then
  bif decide (0 ≤ v4) then
   bif decide (v4 < (c0.2.1.length : Int)) then
    bif (c0.2.1.getD v4.toNat (0, 0, 0, ())).1 == 2 then
     some (.next (wi64 (v3 + 1), wi64 (v4 + 1), c0, ()))
    else
    some (.next (v3, wi64 (v4 + 1), c0, ()))
   else none
  else none
 else
 some (.fin (.out (v3, ())))
def r12_Dirty_s0 (x : r12_Dirty_h0.T) : Option (SRes r12_Dirty_h0 r12_Dirty_o0 r12_Dirty_e0) := r12_Dirty_s0r x.1 x.2.1 x.2.2.1
def r12_Dirty_l0 (x : r12_Dirty_h0.T) : Option (LRes r12_Dirty_o0 r12_Dirty_e0) := iterL r12_Dirty_s0 9223372036854775808 x
def r12_Dirty_r (a0 : Heap) : Option (Int × Unit) :=
 (r12_Dirty_l0 (0, 0, a0, ())).bind fun s1 => match s1 with
 | .out s1 =>
  some (s1.1, ())
 | .ret s1 =>
  none
def r12_Dirty (x : Heap × Unit) : Option (Int × Unit) := r12_Dirty_r x.1
def r12_Dirty_sm : Sum := ⟨(.cons cHeap .nil), (.cons (.d cI) .nil), r12_Dirty⟩
def r12_Dirty_L0 : LoopSum := { hc := ⟨[], [1, 3, 4], [], [], [0], [], 64⟩, h := ⟨[(1, (.pvar 0 [])), (3, (.d cI)), (4, (.d cI))], [(0, (.d cHeap))], [], 64⟩, xid := 0, oc := ⟨[], [3], [], [], [], [], 64⟩, o := ⟨[(3, (.d cI))], [], [], 64⟩, rc := ⟨[], [], [], [], [64], [], 64⟩, r := ⟨[], [], [], 64⟩, F := r12_Dirty_l0 }
def r12_Dirty_c : Ctx := ⟨[], [], [⟨8, 68, 0, 0, r12_Dirty_L0⟩]⟩
theorem r12_Dirty_sem : SemOf Tryz.prog 68 r12_Dirty_sm := semC (c := r12_Dirty_c) Tryz.func68 an an (ec (aeC [true, true, false, true, false, false] r12_Dirty_s0 Tryz.func68) an) 8
def r08_Black_r (a0 : Heap) (a1 : Int) : Option (Bool × Unit) :=
 (r08_Get (a0, a1, ())).bind fun y1 =>
 bif y1.2.1 then
  some (y1.1.2.1 == a0.2.2.1, ())
 else
 some (false, ())
def r08_Black (x : Heap × Int × Unit) : Option (Bool × Unit) := r08_Black_r x.1 x.2.1
def r08_Black_sm : Sum := ⟨(.cons cHeap (.cons cI .nil)), (.cons (.d .bool) .nil), r08_Black⟩
def r08_Black_c : Ctx := ⟨[(65, r08_Get_sm)], [], []⟩
theorem r08_Black_sem : SemOf Tryz.prog 69 r08_Black_sm := semC (c := r08_Black_c) Tryz.func69 (sc r08_Get_sem an) an an 8
abbrev r11_Kept_h0 : U := (.cons (.sl (.arr 4 cI)) (.cons cI cVal))
abbrev r11_Kept_o0 : U := (.cons (.sl (.arr 4 cI)) cVal)
abbrev r11_Kept_e0 : U := (.cons .bool .nil)
def r11_Kept_s0r (v0 : List (List Int)) (v1 : Int) (v5 : Int) (v6 : Int) : Option (SRes r11_Kept_h0 r11_Kept_o0 r11_Kept_e0) :=
 bif decide (v6 < 4) then
  bif decide (0 ≤ v5) then
   bif decide (v5 < (v0.length : Int)) then
    bif decide (0 ≤ v6) then
     bif decide (v6 < 4) then
      bif ((v0.getD v5.toNat (List.replicate 4 0)).getD v6.toNat 0) == v1 then
       some (.fin (.ret (true, ())))
      else
      some (.next (v0, v1, v5, wi64 (v6 + 1), ()))
     else none
    else none
   else none
  else none
 else
 some (.fin (.out (v0, v1, v5, ())))
def r11_Kept_s0 (x : r11_Kept_h0.T) : Option (SRes r11_Kept_h0 r11_Kept_o0 r11_Kept_e0) := r11_Kept_s0r x.1 x.2.1 x.2.2.1 x.2.2.2.1
def r11_Kept_l0 (x : r11_Kept_h0.T) : Option (LRes r11_Kept_o0 r11_Kept_e0) := iterL r11_Kept_s0 9223372036854775808 x
abbrev r11_Kept_h1 : U := (.cons (.sl (.arr 4 cI)) cVal)
abbrev r11_Kept_o1 : U := .nil
abbrev r11_Kept_e1 : U := (.cons .bool .nil)
def r11_Kept_s1r (v0 : List (List Int)) (v1 : Int) (v5 : Int) : Option (SRes r11_Kept_h1 r11_Kept_o1 r11_Kept_e1) :=
 bif decide (v5 < (v0.length : Int)) then
  bif decide (v1 ≥ 0) then
   (r11_Kept_l0 (v0, v1, v5, 0, ())).bind fun s1 => match s1 with
   | .out s1 =>
    some (.next (s1.1, s1.2.1, wi64 (s1.2.2.1 + 1), ()))
   | .ret s1 =>
    some (.fin (.ret (s1.1, ())))
  else
  some (.fin (.out ()))
 else
 some (.fin (.out ()))
def r11_Kept_s1 (x : r11_Kept_h1.T) : Option (SRes r11_Kept_h1 r11_Kept_o1 r11_Kept_e1) := r11_Kept_s1r x.1 x.2.1 x.2.2.1
def r11_Kept_l1 (x : r11_Kept_h1.T) : Option (LRes r11_Kept_o1 r11_Kept_e1) := iterL r11_Kept_s1 9223372036854775808 x
def r11_Kept_r (a0 : List (List Int)) (a1 : Int) : Option (Bool × Unit) :=
 (r11_Kept_l1 (a0, a1, 0, ())).bind fun s2 => match s2 with
 | .out s2 =>
  some (false, ())
 | .ret s2 =>
  some (s2.1, ())
def r11_Kept (x : (List (List Int)) × Int × Unit) : Option (Bool × Unit) := r11_Kept_r x.1 x.2.1
def r11_Kept_sm : Sum := ⟨(.cons (.sl (.arr 4 cI)) (.cons cI .nil)), (.cons (.d .bool) .nil), r11_Kept⟩
def r11_Kept_L0 : LoopSum := { hc := ⟨[], [0, 1, 5, 6], [], [], [], [], 176⟩, h := ⟨[(0, (.d (.sl (.arr 4 cI)))), (1, (.d cI)), (5, (.d cI)), (6, (.d cI))], [], [], 176⟩, xid := 2, oc := ⟨[], [0, 1, 5], [], [], [], [], 176⟩, o := ⟨[(0, (.d (.sl (.arr 4 cI)))), (1, (.d cI)), (5, (.d cI))], [], [], 176⟩, rc := ⟨[], [4], [], [], [], [], 176⟩, r := ⟨[(4, (.d .bool))], [], [], 176⟩, F := r11_Kept_l0 }
def r11_Kept_L1 : LoopSum := { hc := ⟨[], [0, 1, 5], [], [], [], [], 32⟩, h := ⟨[(0, (.d (.sl (.arr 4 cI)))), (1, (.d cI)), (5, (.d cI))], [], [], 32⟩, xid := 0, oc := ⟨[], [], [], [], [], [], 32⟩, o := ⟨[], [], [], 32⟩, rc := ⟨[], [4], [], [], [], [], 32⟩, r := ⟨[(4, (.d .bool))], [], [], 32⟩, F := r11_Kept_l1 }
def r11_Kept_c : Ctx := ⟨[], [], [⟨8, 190, 0, 2, r11_Kept_L0⟩, ⟨8, 190, 0, 0, r11_Kept_L1⟩]⟩
theorem r11_Kept_sem : SemOf Tryz.prog 190 r11_Kept_sm := semC (c := r11_Kept_c) Tryz.func190 an an (ec (aeC [true, false, true, false, false, true, false, false, true, false, false] r11_Kept_s0 Tryz.func190) (ec (aeC [true, false, true, false, false] r11_Kept_s1 Tryz.func190) an)) 8
def r12_copied_r (a0 : Heap) : Option (Heap × Unit) :=
 bif decide (a0.1.length * 8 ≤ 140737488355328) then
  bif decide (a0.2.1.length * 24 ≤ 140737488355328) then
   some ((a0.1, a0.2.1, a0.2.2.1, ()), ())
  else none
 else none
def r12_copied (x : Heap × Unit) : Option (Heap × Unit) := r12_copied_r x.1
def r12_copied_sm : Sum := ⟨(.cons cHeap .nil), (.cons (.cons (.own (.int .u64)) (.cons (.own cSpan) (.cons (.d .bool) .nil))) .nil), r12_copied⟩
def r12_copied_c : Ctx := ⟨[], [], []⟩
theorem r12_copied_sem : SemOf Tryz.prog 196 r12_copied_sm := semC (c := r12_copied_c) Tryz.func196 an an an 8
abbrev r12_One_h0 : U := (.cons cI (.cons cI (.cons cHeap (.cons (.cons .bool .nil) (.cons (.cons .bool .nil) (.cons (.cons .bool .nil) (.cons cSpan (.cons (.cons .bool .nil) (.cons (.sl (.int .u64)) (.cons (.sl cSpan) (.cons (.sl (.int .u64)) (.cons (.sl cSpan) .nil))))))))))))
abbrev r12_One_o0 : U := (.cons cHeap (.cons (.cons .bool .nil) (.cons (.cons .bool .nil) (.cons (.cons .bool .nil) (.cons (.cons .bool .nil) (.cons (.sl (.int .u64)) (.cons (.sl cSpan) (.cons (.sl (.int .u64)) (.cons (.sl cSpan) .nil)))))))))
abbrev r12_One_e0 : U := .nil
def r12_One_s0r (v1 : Int) (v12 : Int) (c0 : Heap) (c16 : Bool × Unit) (c320 : Bool × Unit) (c914 : Bool × Unit) (c1298 : Span) (c1442 : Bool × Unit) (r416 : List Int) (r417 : List Span) (r1426 : List Int) (r1427 : List Span) : Option (SRes r12_One_h0 r12_One_o0 r12_One_e0) :=
 (r04_Words (c1298.2.1, ())).bind fun y7 =>
 bif decide (v12 < y7.1) then
  bif decide (0 ≤ (wi64 (v1 + v12))) then
   bif decide ((wi64 (v1 + v12)) < (r1426.length : Int)) then
    some (.next (v1, wi64 (v12 + 1), c0, c16, c320, c914, c1298, c1442, r416, r417, r1426.set (wi64 (v1 + v12)).toNat 0, r1427, ()))
   else none
  else none
 else
 some (.fin (.out (c0, c16, c320, c914, c1442, r416, r417, r1426, r1427, ())))
def r12_One_s0 (x : r12_One_h0.T) : Option (SRes r12_One_h0 r12_One_o0 r12_One_e0) := r12_One_s0r x.1 x.2.1 x.2.2.1 x.2.2.2.1 x.2.2.2.2.1 x.2.2.2.2.2.1 x.2.2.2.2.2.2.1 x.2.2.2.2.2.2.2.1 x.2.2.2.2.2.2.2.2.1 x.2.2.2.2.2.2.2.2.2.1 x.2.2.2.2.2.2.2.2.2.2.1 x.2.2.2.2.2.2.2.2.2.2.2.1
def r12_One_l0 (x : r12_One_h0.T) : Option (LRes r12_One_o0 r12_One_e0) := iterL r12_One_s0 9223372036854775808 x
abbrev r12_One_h1 : U := (.cons (.sl (.arr 4 cI)) (.cons cI (.cons cI (.cons cI (.cons cHeap (.cons (.cons .bool .nil) (.cons (.cons .bool .nil) (.cons (.sl (.int .u64)) (.cons (.sl cSpan) .nil)))))))))
abbrev r12_One_o1 : U := (.cons (.sl (.arr 4 cI)) (.cons cI (.cons cI (.cons (.cons .bool .nil) (.cons (.cons .bool .nil) (.cons (.sl (.int .u64)) (.cons (.sl cSpan) .nil)))))))
abbrev r12_One_e1 : U := .nil
def r12_One_s1r (v1 : List (List Int)) (v8 : Int) (v10 : Int) (v11 : Int) (c0 : Heap) (c16 : Bool × Unit) (c320 : Bool × Unit) (r416 : List Int) (r417 : List Span) : Option (SRes r12_One_h1 r12_One_o1 r12_One_e1) :=
 bif decide (v11 < (wi64 ((wi64 (32 * v8)) + 32))) then
  (r08_Get ((r416, r417, c320), v11, ())).bind fun y2 =>
  bif !y2.2.1 then
   some (.next (v1, v8, v10, wi64 (v11 + 1), c0, c16, c320, r416, r417, ()))
  else
  (r08_Black ((r416, r417, c320), v11, ())).bind fun y3 =>
  bif y3.1 then
   some (.next (v1, v8, v10, wi64 (v11 + 1), c0, c16, c320, r416, r417, ()))
  else
  (r07_Find ((r416, r417, c320), v11, ())).bind fun y4 =>
  bif !y4.2.2.1 then
   some (.next (v1, v8, v10, wi64 (v11 + 1), c0, c16, c320, r416, r417, ()))
  else
  bif decide (0 ≤ y4.1) then
   bif decide (y4.1 < (r417.length : Int)) then
    (r06_Give (r417.getD y4.1.toNat (0, 0, 0, ()), y4.2.1, ())).bind fun y5 =>
    bif !y5.2.1 then
     some (.next (v1, v8, v10, wi64 (v11 + 1), c0, c16, c320, r416, r417, ()))
    else
    (r07_with ((r416, r417, c320), y4.1, y5.1, ())).bind fun y6 =>
    (r12_One_l0 (v11, 0, c0, c16, c320, (false, ()), y5.1, y6.1.2.2, r416, r417, y6.1.1, y6.1.2.1, ())).bind fun s8 => match s8 with
    | .out s8 =>
     bif decide (0 ≤ v8) then
      bif decide (v8 < (s8.1.2.1.length : Int)) then
       (r04_Words ((s8.1.2.1.getD v8.toNat (0, 0, 0, ())).2.1, ())).bind fun y9 =>
       some (.next (v1, v8, wi64 (v10 + y9.1), wi64 (v11 + 1), s8.1, s8.2.1, s8.2.2.2.2.1, s8.2.2.2.2.2.2.2.1, s8.2.2.2.2.2.2.2.2.1, ()))
      else none
     else none
    | .ret s8 =>
     none
   else none
  else none
 else
 some (.fin (.out (v1, v8, v10, c16, c320, r416, r417, ())))
def r12_One_s1 (x : r12_One_h1.T) : Option (SRes r12_One_h1 r12_One_o1 r12_One_e1) := r12_One_s1r x.1 x.2.1 x.2.2.1 x.2.2.2.1 x.2.2.2.2.1 x.2.2.2.2.2.1 x.2.2.2.2.2.2.1 x.2.2.2.2.2.2.2.1 x.2.2.2.2.2.2.2.2.1
def r12_One_l1 (x : r12_One_h1.T) : Option (LRes r12_One_o1 r12_One_e1) := iterL r12_One_s1 9223372036854775808 x
abbrev r12_One_h2 : U := (.cons (.sl (.arr 4 cI)) (.cons cI (.cons cHeap (.cons (.cons .bool .nil) .nil))))
abbrev r12_One_o2 : U := (.cons cHeap (.cons (.cons .bool .nil) .nil))
abbrev r12_One_e2 : U := (.cons cI (.cons cI (.cons .bool (.cons (.cons .bool .nil) (.cons (.sl (.int .u64)) (.cons (.sl cSpan) .nil))))))
def r12_One_s2r (v1 : List (List Int)) (v8 : Int) (c0 : Heap) (c16 : Bool × Unit) : Option (SRes r12_One_h2 r12_One_o2 r12_One_e2) :=
 bif decide (v8 < (c0.2.1.length : Int)) then
  bif decide (0 ≤ v8) then
   bif decide (v8 < (c0.2.1.length : Int)) then
    bif (c0.2.1.getD v8.toNat (0, 0, 0, ())).1 != 2 then
     some (.next (v1, wi64 (v8 + 1), c0, c16, ()))
    else
    (r12_copied (c0, ())).bind fun y1 =>
    (r12_One_l1 (v1, v8, 0, wi64 (32 * v8), c0, c16, (y1.1.2.2.1, ()), y1.1.1, y1.1.2.1, ())).bind fun s10 => match s10 with
    | .out s10 =>
     bif decide (0 ≤ s10.2.1) then
      bif decide (s10.2.1 < (s10.2.2.2.2.2.2.1.length : Int)) then
       bif decide (0 ≤ s10.2.1) then
        bif decide (s10.2.1 < ((s10.2.2.2.2.2.2.1.set s10.2.1.toNat (1, (s10.2.2.2.2.2.2.1.getD s10.2.1.toNat (0, 0, 0, ())).2)).length : Int)) then
         (r06_Free ((s10.2.2.2.2.2.2.1.set s10.2.1.toNat (1, (s10.2.2.2.2.2.2.1.getD s10.2.1.toNat (0, 0, 0, ())).2)).getD s10.2.1.toNat (0, 0, 0, ()), ())).bind fun y11 =>
         bif decide (0 ≤ s10.2.1) then
          bif decide (s10.2.1 < ((s10.2.2.2.2.2.2.1.set s10.2.1.toNat (1, (s10.2.2.2.2.2.2.1.getD s10.2.1.toNat (0, 0, 0, ())).2)).length : Int)) then
           (r04_Blocks (((s10.2.2.2.2.2.2.1.set s10.2.1.toNat (1, (s10.2.2.2.2.2.2.1.getD s10.2.1.toNat (0, 0, 0, ())).2)).getD s10.2.1.toNat (0, 0, 0, ())).2.1, ())).bind fun y12 =>
           bif y11.1 == y12.1 then
            (r11_Kept (s10.1, s10.2.1, ())).bind fun y13 =>
            bif !y13.1 then
             bif decide (0 ≤ s10.2.1) then
              bif decide (s10.2.1 < ((s10.2.2.2.2.2.2.1.set s10.2.1.toNat (1, (s10.2.2.2.2.2.2.1.getD s10.2.1.toNat (0, 0, 0, ())).2)).length : Int)) then
               some (.fin (.ret (s10.2.1, s10.2.2.1, true, s10.2.2.2.2.1, s10.2.2.2.2.2.1, (s10.2.2.2.2.2.2.1.set s10.2.1.toNat (1, (s10.2.2.2.2.2.2.1.getD s10.2.1.toNat (0, 0, 0, ())).2)).set s10.2.1.toNat (0, 0, 0, ()), ())))
              else none
             else none
            else
            some (.fin (.ret (s10.2.1, s10.2.2.1, true, s10.2.2.2.2.1, s10.2.2.2.2.2.1, s10.2.2.2.2.2.2.1.set s10.2.1.toNat (1, (s10.2.2.2.2.2.2.1.getD s10.2.1.toNat (0, 0, 0, ())).2), ())))
           else
           some (.fin (.ret (s10.2.1, s10.2.2.1, true, s10.2.2.2.2.1, s10.2.2.2.2.2.1, s10.2.2.2.2.2.2.1.set s10.2.1.toNat (1, (s10.2.2.2.2.2.2.1.getD s10.2.1.toNat (0, 0, 0, ())).2), ())))
          else none
         else none
        else none
       else none
      else none
     else none
    | .ret s10 =>
     none
   else none
  else none
 else
 some (.fin (.out (c0, c16, ())))
def r12_One_s2 (x : r12_One_h2.T) : Option (SRes r12_One_h2 r12_One_o2 r12_One_e2) := r12_One_s2r x.1 x.2.1 x.2.2.1 x.2.2.2.1
def r12_One_l2 (x : r12_One_h2.T) : Option (LRes r12_One_o2 r12_One_e2) := iterL r12_One_s2 9223372036854775808 x
def r12_One_r (a0 : Heap) (a1 : List (List Int)) : Option (Heap × Int × Int × Bool × Unit) :=
 (r12_One_l2 (a1, 0, a0, (false, ()), ())).bind fun s14 => match s14 with
 | .out s14 =>
  some (s14.1, 0, 0, false, ())
 | .ret s14 =>
  some ((s14.2.2.2.2.1, s14.2.2.2.2.2.1, s14.2.2.2.1), s14.1, s14.2.1, s14.2.2.1, ())
def r12_One (x : Heap × (List (List Int)) × Unit) : Option (Heap × Int × Int × Bool × Unit) := r12_One_r x.1 x.2.1
def r12_One_sm : Sum := ⟨(.cons cHeap (.cons (.sl (.arr 4 cI)) .nil)), (.cons (.d cHeap) (.cons (.d cI) (.cons (.d cI) (.cons (.d .bool) .nil)))), r12_One⟩
def r12_One_L0 : LoopSum := { hc := ⟨[], [1, 4, 9, 11, 12], [], [], [0, 16, 320, 914, 1298, 1442], [416, 417, 1426, 1427], 1490⟩, h := ⟨[(1, (.d cI)), (4, (.pvar 914 [])), (9, (.pvar 1298 [])), (11, (.pvar 1442 [])), (12, (.d cI))], [(0, (.d cHeap)), (16, (.cons .nilsl (.cons .nilsl (.d (.cons .bool .nil))))), (320, (.cons (.row 416) (.cons (.row 417) (.d (.cons .bool .nil))))), (914, (.cons .nilsl (.cons .nilsl (.d (.cons .bool .nil))))), (1298, (.d cSpan)), (1442, (.cons (.row 1426) (.cons (.row 1427) (.d (.cons .bool .nil)))))], [(416, (.int .u64), true), (417, cSpan, true), (1426, (.int .u64), true), (1427, cSpan, true)], 1490⟩, xid := 0, oc := ⟨[], [4, 11], [], [], [0, 16, 320, 914, 1442], [416, 417, 1426, 1427], 1490⟩, o := ⟨[(4, (.pvar 914 [])), (11, (.pvar 1442 []))], [(0, (.d cHeap)), (16, (.cons .nilsl (.cons .nilsl (.d (.cons .bool .nil))))), (320, (.cons (.row 416) (.cons (.row 417) (.d (.cons .bool .nil))))), (914, (.cons .nilsl (.cons .nilsl (.d (.cons .bool .nil))))), (1442, (.cons (.row 1426) (.cons (.row 1427) (.d (.cons .bool .nil)))))], [(416, (.int .u64), true), (417, cSpan, true), (1426, (.int .u64), true), (1427, cSpan, true)], 1490⟩, rc := ⟨[], [], [], [], [1490], [], 1490⟩, r := ⟨[], [], [], 1490⟩, F := r12_One_l0 }
def r12_One_L1 : LoopSum := { hc := ⟨[], [1, 2, 4, 8, 9, 10, 11], [(.key 320 [.fld 0], (.int .u64)), (.key 320 [.fld 1], cSpan)], [], [0, 16, 320], [], 416⟩, h := ⟨[(1, (.d (.sl (.arr 4 cI)))), (2, (.pvar 0 [])), (4, (.pvar 16 [])), (8, (.d cI)), (9, (.pvar 320 [])), (10, (.d cI)), (11, (.d cI))], [(0, (.d cHeap)), (16, (.cons .nilsl (.cons .nilsl (.d (.cons .bool .nil))))), (320, (.cons (.row 416) (.cons (.row 417) (.d (.cons .bool .nil)))))], [(416, (.int .u64), true), (417, cSpan, true)], 418⟩, xid := 2, oc := ⟨[], [1, 4, 8, 9, 10], [(.ptr 9 [.fld 0], (.int .u64)), (.ptr 9 [.fld 1], cSpan)], [], [16, 320], [], 416⟩, o := ⟨[(1, (.d (.sl (.arr 4 cI)))), (4, (.pvar 16 [])), (8, (.d cI)), (9, (.pvar 320 [])), (10, (.d cI))], [(16, (.cons .nilsl (.cons .nilsl (.d (.cons .bool .nil))))), (320, (.cons (.row 416) (.cons (.row 417) (.d (.cons .bool .nil)))))], [(416, (.int .u64), true), (417, cSpan, true)], 418⟩, rc := ⟨[], [], [], [], [416], [], 416⟩, r := ⟨[], [], [], 416⟩, F := r12_One_l1 }
def r12_One_L2 : LoopSum := { hc := ⟨[], [1, 2, 4, 8], [], [], [0, 16], [], 96⟩, h := ⟨[(1, (.d (.sl (.arr 4 cI)))), (2, (.pvar 0 [])), (4, (.pvar 16 [])), (8, (.d cI))], [(0, (.d cHeap)), (16, (.cons .nilsl (.cons .nilsl (.d (.cons .bool .nil)))))], [], 96⟩, xid := 0, oc := ⟨[], [2, 4], [], [], [0, 16], [], 96⟩, o := ⟨[(2, (.pvar 0 [])), (4, (.pvar 16 []))], [(0, (.d cHeap)), (16, (.cons .nilsl (.cons .nilsl (.d (.cons .bool .nil)))))], [], 96⟩, rc := ⟨[], [4, 5, 6, 7], [(.ptr 4 [.fld 0], (.int .u64)), (.ptr 4 [.fld 1], cSpan)], [], [16], [], 96⟩, r := ⟨[(4, (.pvar 16 [])), (5, (.d cI)), (6, (.d cI)), (7, (.d .bool))], [(16, (.cons (.row 96) (.cons (.row 97) (.d (.cons .bool .nil)))))], [(96, (.int .u64), true), (97, cSpan, true)], 98⟩, F := r12_One_l2 }
def r12_One_c : Ctx := ⟨[(65, r08_Get_sm), (69, r08_Black_sm), (82, r04_Words_sm), (83, r04_Blocks_sm), (91, r06_Free_sm), (141, r07_Find_sm), (190, r11_Kept_sm), (191, r07_with_sm), (196, r12_copied_sm), (236, r06_Give_sm)], [(169, Tryz.f169)], [⟨7, 169, 898, 0, r12_One_L0⟩, ⟨8, 117, 0, 2, r12_One_L1⟩, ⟨8, 117, 0, 0, r12_One_L2⟩]⟩
theorem r12_One_sem : SemOf Tryz.prog 117 r12_One_sm := semC (c := r12_One_c) Tryz.func117 (sc r08_Get_sem (sc r08_Black_sem (sc r04_Words_sem (sc r04_Blocks_sem (sc r06_Free_sem (sc r07_Find_sem (sc r11_Kept_sem (sc r07_with_sem (sc r12_copied_sem (sc r06_Give_sem an)))))))))) (fc (flC Tryz.func169) an) (ec (aeC [true, true, true, true, true, true, false, true, false, false] r12_One_s0 Tryz.func169) (ec (aeC [true, false, true, false, false, true, false, false, true, true, true, false, true, false, false] r12_One_s1 Tryz.func117) (ec (aeC [true, false, true, false, false] r12_One_s2 Tryz.func117) an))) 8
end
end Go.Proofs.YtkjpakaidjpjgaaGreatDoor.Dfn
