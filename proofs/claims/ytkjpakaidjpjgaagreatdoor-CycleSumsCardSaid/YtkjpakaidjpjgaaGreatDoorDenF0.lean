/- What functions come to. Printed by a program of this session. -/
import Derived.Test.YtkjpakaidjpjgaaGreatDoorDenFw
namespace Go.Proofs.YtkjpakaidjpjgaaGreatDoor.Den
open Go
set_option maxRecDepth 100000
set_option linter.unusedVariables false
noncomputable section
abbrev r05_Same_h0 : U := (.cons (.sl (.int .u64)) (.cons (.sl (.int .u64)) (.cons cI .nil)))
abbrev r05_Same_o0 : U := .nil
abbrev r05_Same_e0 : U := (.cons .bool .nil)
def r05_Same_s0r (v0 : List Int) (v1 : List Int) (v5 : Int) : Option (SRes r05_Same_h0 r05_Same_o0 r05_Same_e0) :=
 bif decide (v5 < (v0.length : Int)) then
  bif decide (0 ≤ v5) then
   bif decide (v5 < (v0.length : Int)) then
    bif decide (0 ≤ v5) then
     bif decide (v5 < (v1.length : Int)) then
      bif (v0.getD v5.toNat 0) != (v1.getD v5.toNat 0) then
       some (.fin (.ret (false, ())))
      else
      some (.next (v0, v1, wi64 (v5 + 1), ()))
     else none
    else none
   else none
  else none
 else
 some (.fin (.out ()))
def r05_Same_s0 (x : r05_Same_h0.T) : Option (SRes r05_Same_h0 r05_Same_o0 r05_Same_e0) := r05_Same_s0r x.1 x.2.1 x.2.2.1
def r05_Same_l0 (x : r05_Same_h0.T) : Option (LRes r05_Same_o0 r05_Same_e0) := iterL r05_Same_s0 9223372036854775808 x
def r05_Same_r (a0 : List Int) (a1 : List Int) : Option (Bool × Unit) :=
 bif (a0.length : Int) != (a1.length : Int) then
  some (false, ())
 else
 (r05_Same_l0 (a0, a1, 0, ())).bind fun s1 => match s1 with
 | .out s1 =>
  some (true, ())
 | .ret s1 =>
  some (s1.1, ())
def r05_Same (x : (List Int) × (List Int) × Unit) : Option (Bool × Unit) := r05_Same_r x.1 x.2.1
def r05_Same_sm : Sum := ⟨(.cons (.sl (.int .u64)) (.cons (.sl (.int .u64)) .nil)), (.cons (.d .bool) .nil), r05_Same⟩
def r05_Same_L0 : LoopSum := { hc := ⟨[], [0, 1, 5], [], [], [], [], 112⟩, h := ⟨[(0, (.d (.sl (.int .u64)))), (1, (.d (.sl (.int .u64)))), (5, (.d cI))], [], [], 112⟩, xid := 0, oc := ⟨[], [], [], [], [], [], 112⟩, o := ⟨[], [], [], 112⟩, rc := ⟨[], [4], [], [], [], [], 112⟩, r := ⟨[(4, (.d .bool))], [], [], 112⟩, F := r05_Same_l0 }
def r05_Same_c : Ctx := ⟨[], [], [⟨8, 105, 0, 0, r05_Same_L0⟩]⟩
theorem r05_Same_sem : SemOf Tryz.prog 105 r05_Same_sm := semC (c := r05_Same_c) Tryz.func105 an an (ec (aeC [true, true, false, true, false, false] r05_Same_s0 Tryz.func105) an) 8
abbrev r07_Same_h0 : U := (.cons cI (.cons cHeap (.cons cHeap .nil)))
abbrev r07_Same_o0 : U := .nil
abbrev r07_Same_e0 : U := (.cons .bool .nil)
def r07_Same_s0r (v5 : Int) (c0 : Heap) (c16 : Heap) : Option (SRes r07_Same_h0 r07_Same_o0 r07_Same_e0) :=
 bif decide (v5 < (c0.2.1.length : Int)) then
  bif decide (0 ≤ v5) then
   bif decide (v5 < (c0.2.1.length : Int)) then
    bif decide (0 ≤ v5) then
     bif decide (v5 < (c16.2.1.length : Int)) then
      bif !(((c0.2.1.getD v5.toNat (0, 0, 0, ())).1 == (c16.2.1.getD v5.toNat (0, 0, 0, ())).1) && (((c0.2.1.getD v5.toNat (0, 0, 0, ())).2.1 == (c16.2.1.getD v5.toNat (0, 0, 0, ())).2.1) && (((c0.2.1.getD v5.toNat (0, 0, 0, ())).2.2.1 == (c16.2.1.getD v5.toNat (0, 0, 0, ())).2.2.1) && true))) then
       some (.fin (.ret (false, ())))
      else
      some (.next (wi64 (v5 + 1), c0, c16, ()))
     else none
    else none
   else none
  else none
 else
 some (.fin (.out ()))
def r07_Same_s0 (x : r07_Same_h0.T) : Option (SRes r07_Same_h0 r07_Same_o0 r07_Same_e0) := r07_Same_s0r x.1 x.2.1 x.2.2.1
def r07_Same_l0 (x : r07_Same_h0.T) : Option (LRes r07_Same_o0 r07_Same_e0) := iterL r07_Same_s0 9223372036854775808 x
def r07_Same_r (a0 : Heap) (a1 : Heap) : Option (Bool × Unit) :=
 bif !(a0.2.2.1 == a1.2.2.1) then
  some (false, ())
 else
 bif (a0.2.1.length : Int) != (a1.2.1.length : Int) then
  some (false, ())
 else
 (r05_Same (a0.1, a1.1, ())).bind fun y1 =>
 bif !y1.1 then
  some (false, ())
 else
 (r07_Same_l0 (0, a0, a1, ())).bind fun s2 => match s2 with
 | .out s2 =>
  some (true, ())
 | .ret s2 =>
  some (s2.1, ())
def r07_Same (x : Heap × Heap × Unit) : Option (Bool × Unit) := r07_Same_r x.1 x.2.1
def r07_Same_sm : Sum := ⟨(.cons cHeap (.cons cHeap .nil)), (.cons (.d .bool) .nil), r07_Same⟩
def r07_Same_L0 : LoopSum := { hc := ⟨[], [2, 3, 5], [], [], [0, 16], [], 416⟩, h := ⟨[(2, (.pvar 0 [])), (3, (.pvar 16 [])), (5, (.d cI))], [(0, (.d cHeap)), (16, (.d cHeap))], [], 416⟩, xid := 0, oc := ⟨[], [], [], [], [], [], 416⟩, o := ⟨[], [], [], 416⟩, rc := ⟨[], [4], [], [], [], [], 416⟩, r := ⟨[(4, (.d .bool))], [], [], 416⟩, F := r07_Same_l0 }
def r07_Same_c : Ctx := ⟨[(105, r05_Same_sm)], [], [⟨8, 42, 0, 0, r07_Same_L0⟩]⟩
theorem r07_Same_sem : SemOf Tryz.prog 42 r07_Same_sm := semC (c := r07_Same_c) Tryz.func42 (sc r05_Same_sem an) an (ec (aeC [true, true, false, true, false, false] r07_Same_s0 Tryz.func42) an) 8
abbrev r01_Same_h0 : U := (.cons (.sl cVal) (.cons (.sl cVal) (.cons cI .nil)))
abbrev r01_Same_o0 : U := .nil
abbrev r01_Same_e0 : U := (.cons .bool .nil)
def r01_Same_s0r (v0 : List Val) (v1 : List Val) (v5 : Int) : Option (SRes r01_Same_h0 r01_Same_o0 r01_Same_e0) :=
 bif decide (v5 < (v0.length : Int)) then
  bif decide (0 ≤ v5) then
   bif decide (v5 < (v0.length : Int)) then
    bif decide (0 ≤ v5) then
     bif decide (v5 < (v1.length : Int)) then
      bif !(((v0.getD v5.toNat (0, 0, ())).1 == (v1.getD v5.toNat (0, 0, ())).1) && (((v0.getD v5.toNat (0, 0, ())).2.1 == (v1.getD v5.toNat (0, 0, ())).2.1) && true)) then
       some (.fin (.ret (false, ())))
      else
      some (.next (v0, v1, wi64 (v5 + 1), ()))
     else none
    else none
   else none
  else none
 else
 some (.fin (.out ()))
def r01_Same_s0 (x : r01_Same_h0.T) : Option (SRes r01_Same_h0 r01_Same_o0 r01_Same_e0) := r01_Same_s0r x.1 x.2.1 x.2.2.1
def r01_Same_l0 (x : r01_Same_h0.T) : Option (LRes r01_Same_o0 r01_Same_e0) := iterL r01_Same_s0 9223372036854775808 x
def r01_Same_r (a0 : List Val) (a1 : List Val) : Option (Bool × Unit) :=
 bif (a0.length : Int) != (a1.length : Int) then
  some (false, ())
 else
 (r01_Same_l0 (a0, a1, 0, ())).bind fun s1 => match s1 with
 | .out s1 =>
  some (true, ())
 | .ret s1 =>
  some (s1.1, ())
def r01_Same (x : (List Val) × (List Val) × Unit) : Option (Bool × Unit) := r01_Same_r x.1 x.2.1
def r01_Same_sm : Sum := ⟨(.cons (.sl cVal) (.cons (.sl cVal) .nil)), (.cons (.d .bool) .nil), r01_Same⟩
def r01_Same_L0 : LoopSum := { hc := ⟨[], [0, 1, 5], [], [], [], [], 112⟩, h := ⟨[(0, (.d (.sl cVal))), (1, (.d (.sl cVal))), (5, (.d cI))], [], [], 112⟩, xid := 0, oc := ⟨[], [], [], [], [], [], 112⟩, o := ⟨[], [], [], 112⟩, rc := ⟨[], [4], [], [], [], [], 112⟩, r := ⟨[(4, (.d .bool))], [], [], 112⟩, F := r01_Same_l0 }
def r01_Same_c : Ctx := ⟨[], [], [⟨8, 33, 0, 0, r01_Same_L0⟩]⟩
theorem r01_Same_sem : SemOf Tryz.prog 33 r01_Same_sm := semC (c := r01_Same_c) Tryz.func33 an an (ec (aeC [true, true, false, true, false, false] r01_Same_s0 Tryz.func33) an) 8
def r18_Same_r (a0 : Mut) (a1 : Mut) : Option (Bool × Unit) :=
 (r01_Same (a0.1, a1.1, ())).bind fun y1 =>
 bif y1.1 then
  bif a0.2.1 == a1.2.1 then
   bif (a0.2.2.1.1 == a1.2.2.1.1) && ((a0.2.2.1.2.1 == a1.2.2.1.2.1) && ((a0.2.2.1.2.2.1 == a1.2.2.1.2.2.1) && ((a0.2.2.1.2.2.2.1 == a1.2.2.1.2.2.2.1) && true))) then
    bif a0.2.2.2.1 == a1.2.2.2.1 then
     bif (a0.2.2.2.2.1.1 == a1.2.2.2.2.1.1) && ((a0.2.2.2.2.1.2.1 == a1.2.2.2.2.1.2.1) && true) then
      some ((List.zip a0.2.2.2.2.2.1 a1.2.2.2.2.2.1).all fun p => p.1 == p.2, ())
     else
     some (false, ())
    else
    some (false, ())
   else
   some (false, ())
  else
  some (false, ())
 else
 some (false, ())
def r18_Same (x : Mut × Mut × Unit) : Option (Bool × Unit) := r18_Same_r x.1 x.2.1
def r18_Same_sm : Sum := ⟨(.cons cMut (.cons cMut .nil)), (.cons (.d .bool) .nil), r18_Same⟩
def r18_Same_c : Ctx := ⟨[(33, r01_Same_sm)], [], []⟩
theorem r18_Same_sem : SemOf Tryz.prog 106 r18_Same_sm := semC (c := r18_Same_c) Tryz.func106 (sc r01_Same_sem an) an an 8
abbrev r18_Sames_h0 : U := (.cons (.sl cMut) (.cons (.sl cMut) (.cons cI .nil)))
abbrev r18_Sames_o0 : U := .nil
abbrev r18_Sames_e0 : U := (.cons .bool .nil)
def r18_Sames_s0r (v0 : List Mut) (v1 : List Mut) (v5 : Int) : Option (SRes r18_Sames_h0 r18_Sames_o0 r18_Sames_e0) :=
 bif decide (v5 < (v0.length : Int)) then
  bif decide (0 ≤ v5) then
   bif decide (v5 < (v0.length : Int)) then
    bif decide (0 ≤ v5) then
     bif decide (v5 < (v1.length : Int)) then
      (r18_Same (v0.getD v5.toNat ([], 0, (0, 0, 0, 0, ()), 0, (0, 0, ()), List.replicate 4 0, ()), v1.getD v5.toNat ([], 0, (0, 0, 0, 0, ()), 0, (0, 0, ()), List.replicate 4 0, ()), ())).bind fun y1 =>
      bif !y1.1 then
       some (.fin (.ret (false, ())))
      else
      some (.next (v0, v1, wi64 (v5 + 1), ()))
     else none
    else none
   else none
  else none
 else
 some (.fin (.out ()))
def r18_Sames_s0 (x : r18_Sames_h0.T) : Option (SRes r18_Sames_h0 r18_Sames_o0 r18_Sames_e0) := r18_Sames_s0r x.1 x.2.1 x.2.2.1
def r18_Sames_l0 (x : r18_Sames_h0.T) : Option (LRes r18_Sames_o0 r18_Sames_e0) := iterL r18_Sames_s0 9223372036854775808 x
def r18_Sames_r (a0 : List Mut) (a1 : List Mut) : Option (Bool × Unit) :=
 bif (a0.length : Int) != (a1.length : Int) then
  some (false, ())
 else
 (r18_Sames_l0 (a0, a1, 0, ())).bind fun s2 => match s2 with
 | .out s2 =>
  some (true, ())
 | .ret s2 =>
  some (s2.1, ())
def r18_Sames (x : (List Mut) × (List Mut) × Unit) : Option (Bool × Unit) := r18_Sames_r x.1 x.2.1
def r18_Sames_sm : Sum := ⟨(.cons (.sl cMut) (.cons (.sl cMut) .nil)), (.cons (.d .bool) .nil), r18_Sames⟩
def r18_Sames_L0 : LoopSum := { hc := ⟨[], [0, 1, 5], [], [], [], [], 112⟩, h := ⟨[(0, (.d (.sl cMut))), (1, (.d (.sl cMut))), (5, (.d cI))], [], [], 112⟩, xid := 0, oc := ⟨[], [], [], [], [], [], 112⟩, o := ⟨[], [], [], 112⟩, rc := ⟨[], [4], [], [], [], [], 112⟩, r := ⟨[(4, (.d .bool))], [], [], 112⟩, F := r18_Sames_l0 }
def r18_Sames_c : Ctx := ⟨[(106, r18_Same_sm)], [], [⟨8, 43, 0, 0, r18_Sames_L0⟩]⟩
theorem r18_Sames_sem : SemOf Tryz.prog 43 r18_Sames_sm := semC (c := r18_Sames_c) Tryz.func43 (sc r18_Same_sem an) an (ec (aeC [true, true, false, true, false, false] r18_Sames_s0 Tryz.func43) an) 8
abbrev r08_Ints_h0 : U := (.cons (.sl cI) (.cons (.sl cI) (.cons cI .nil)))
abbrev r08_Ints_o0 : U := .nil
abbrev r08_Ints_e0 : U := (.cons .bool .nil)
def r08_Ints_s0r (v0 : List Int) (v1 : List Int) (v5 : Int) : Option (SRes r08_Ints_h0 r08_Ints_o0 r08_Ints_e0) :=
 bif decide (v5 < (v0.length : Int)) then
  bif decide (0 ≤ v5) then
   bif decide (v5 < (v0.length : Int)) then
    bif decide (0 ≤ v5) then
     bif decide (v5 < (v1.length : Int)) then
      bif (v0.getD v5.toNat 0) != (v1.getD v5.toNat 0) then
       some (.fin (.ret (false, ())))
      else
      some (.next (v0, v1, wi64 (v5 + 1), ()))
     else none
    else none
   else none
  else none
 else
 some (.fin (.out ()))
def r08_Ints_s0 (x : r08_Ints_h0.T) : Option (SRes r08_Ints_h0 r08_Ints_o0 r08_Ints_e0) := r08_Ints_s0r x.1 x.2.1 x.2.2.1
def r08_Ints_l0 (x : r08_Ints_h0.T) : Option (LRes r08_Ints_o0 r08_Ints_e0) := iterL r08_Ints_s0 9223372036854775808 x
def r08_Ints_r (a0 : List Int) (a1 : List Int) : Option (Bool × Unit) :=
 bif (a0.length : Int) != (a1.length : Int) then
  some (false, ())
 else
 (r08_Ints_l0 (a0, a1, 0, ())).bind fun s1 => match s1 with
 | .out s1 =>
  some (true, ())
 | .ret s1 =>
  some (s1.1, ())
def r08_Ints (x : (List Int) × (List Int) × Unit) : Option (Bool × Unit) := r08_Ints_r x.1 x.2.1
def r08_Ints_sm : Sum := ⟨(.cons (.sl cI) (.cons (.sl cI) .nil)), (.cons (.d .bool) .nil), r08_Ints⟩
def r08_Ints_L0 : LoopSum := { hc := ⟨[], [0, 1, 5], [], [], [], [], 112⟩, h := ⟨[(0, (.d (.sl cI))), (1, (.d (.sl cI))), (5, (.d cI))], [], [], 112⟩, xid := 0, oc := ⟨[], [], [], [], [], [], 112⟩, o := ⟨[], [], [], 112⟩, rc := ⟨[], [4], [], [], [], [], 112⟩, r := ⟨[(4, (.d .bool))], [], [], 112⟩, F := r08_Ints_l0 }
def r08_Ints_c : Ctx := ⟨[], [], [⟨8, 186, 0, 0, r08_Ints_L0⟩]⟩
theorem r08_Ints_sem : SemOf Tryz.prog 186 r08_Ints_sm := semC (c := r08_Ints_c) Tryz.func186 an an (ec (aeC [true, true, false, true, false, false] r08_Ints_s0 Tryz.func186) an) 8
def r13_Same_r (a0 : Grey) (a1 : Grey) : Option (Bool × Unit) :=
 bif a0.1 == a1.1 then
  (r08_Ints (a0.2.1, a1.2.1, ())).bind fun y1 =>
  some (y1.1, ())
 else
 some (false, ())
def r13_Same (x : Grey × Grey × Unit) : Option (Bool × Unit) := r13_Same_r x.1 x.2.1
def r13_Same_sm : Sum := ⟨(.cons cGrey (.cons cGrey .nil)), (.cons (.d .bool) .nil), r13_Same⟩
def r13_Same_c : Ctx := ⟨[(186, r08_Ints_sm)], [], []⟩
theorem r13_Same_sem : SemOf Tryz.prog 107 r13_Same_sm := semC (c := r13_Same_c) Tryz.func107 (sc r08_Ints_sem an) an an 8
abbrev r17_Same_h0 : U := (.cons cI (.cons cMarker (.cons cMarker .nil)))
abbrev r17_Same_o0 : U := .nil
abbrev r17_Same_e0 : U := (.cons .bool .nil)
def r17_Same_s0r (v5 : Int) (c0 : Marker) (c16 : Marker) : Option (SRes r17_Same_h0 r17_Same_o0 r17_Same_e0) :=
 bif decide (v5 < (c0.2.1.length : Int)) then
  bif decide (0 ≤ v5) then
   bif decide (v5 < (c0.2.1.length : Int)) then
    bif decide (0 ≤ v5) then
     bif decide (v5 < (c16.2.1.length : Int)) then
      (r13_Same (c0.2.1.getD v5.toNat (0, [], ()), c16.2.1.getD v5.toNat (0, [], ()), ())).bind fun y3 =>
      bif !y3.1 then
       some (.fin (.ret (false, ())))
      else
      some (.next (wi64 (v5 + 1), c0, c16, ()))
     else none
    else none
   else none
  else none
 else
 some (.fin (.out ()))
def r17_Same_s0 (x : r17_Same_h0.T) : Option (SRes r17_Same_h0 r17_Same_o0 r17_Same_e0) := r17_Same_s0r x.1 x.2.1 x.2.2.1
def r17_Same_l0 (x : r17_Same_h0.T) : Option (LRes r17_Same_o0 r17_Same_e0) := iterL r17_Same_s0 9223372036854775808 x
def r17_Same_r (a0 : Marker) (a1 : Marker) : Option (Bool × Unit) :=
 bif a0.2.2.2.1 != a1.2.2.2.1 then
  some (false, ())
 else
 bif a0.2.2.2.2.1 != a1.2.2.2.2.1 then
  some (false, ())
 else
 bif a0.2.2.2.2.2.1 != a1.2.2.2.2.2.1 then
  some (false, ())
 else
 bif !(a0.2.2.2.2.2.2.1 == a1.2.2.2.2.2.2.1) then
  some (false, ())
 else
 (r13_Same (a0.1, a1.1, ())).bind fun y1 =>
 bif !y1.1 then
  some (false, ())
 else
 (r01_Same (a0.2.2.1, a1.2.2.1, ())).bind fun y2 =>
 bif !y2.1 then
  some (false, ())
 else
 bif (a0.2.1.length : Int) != (a1.2.1.length : Int) then
  some (false, ())
 else
 (r17_Same_l0 (0, a0, a1, ())).bind fun s4 => match s4 with
 | .out s4 =>
  some (true, ())
 | .ret s4 =>
  some (s4.1, ())
def r17_Same (x : Marker × Marker × Unit) : Option (Bool × Unit) := r17_Same_r x.1 x.2.1
def r17_Same_sm : Sum := ⟨(.cons cMarker (.cons cMarker .nil)), (.cons (.d .bool) .nil), r17_Same⟩
def r17_Same_L0 : LoopSum := { hc := ⟨[], [2, 3, 5], [], [], [0, 16], [], 880⟩, h := ⟨[(2, (.pvar 0 [])), (3, (.pvar 16 [])), (5, (.d cI))], [(0, (.d cMarker)), (16, (.d cMarker))], [], 880⟩, xid := 0, oc := ⟨[], [], [], [], [], [], 880⟩, o := ⟨[], [], [], 880⟩, rc := ⟨[], [4], [], [], [], [], 880⟩, r := ⟨[(4, (.d .bool))], [], [], 880⟩, F := r17_Same_l0 }
def r17_Same_c : Ctx := ⟨[(33, r01_Same_sm), (107, r13_Same_sm)], [], [⟨8, 44, 0, 0, r17_Same_L0⟩]⟩
theorem r17_Same_sem : SemOf Tryz.prog 44 r17_Same_sm := semC (c := r17_Same_c) Tryz.func44 (sc r01_Same_sem (sc r13_Same_sem an)) an (ec (aeC [true, true, false, true, false, false] r17_Same_s0 Tryz.func44) an) 8
abbrev r20_Same_h0 : U := (.cons cI (.cons cWrld (.cons cWrld .nil)))
abbrev r20_Same_o0 : U := .nil
abbrev r20_Same_e0 : U := (.cons .bool .nil)
def r20_Same_s0r (v5 : Int) (c0 : Wrld) (c16 : Wrld) : Option (SRes r20_Same_h0 r20_Same_o0 r20_Same_e0) :=
 bif decide (v5 < (c0.2.2.2.2.2.2.2.1.length : Int)) then
  bif decide (0 ≤ v5) then
   bif decide (v5 < (c0.2.2.2.2.2.2.2.1.length : Int)) then
    bif decide (0 ≤ v5) then
     bif decide (v5 < (c16.2.2.2.2.2.2.2.1.length : Int)) then
      bif !(((c0.2.2.2.2.2.2.2.1.getD v5.toNat (0, 0, 0, 0, 0, ())).1 == (c16.2.2.2.2.2.2.2.1.getD v5.toNat (0, 0, 0, 0, 0, ())).1) && (((c0.2.2.2.2.2.2.2.1.getD v5.toNat (0, 0, 0, 0, 0, ())).2.1 == (c16.2.2.2.2.2.2.2.1.getD v5.toNat (0, 0, 0, 0, 0, ())).2.1) && (((c0.2.2.2.2.2.2.2.1.getD v5.toNat (0, 0, 0, 0, 0, ())).2.2.1 == (c16.2.2.2.2.2.2.2.1.getD v5.toNat (0, 0, 0, 0, 0, ())).2.2.1) && (((c0.2.2.2.2.2.2.2.1.getD v5.toNat (0, 0, 0, 0, 0, ())).2.2.2.1 == (c16.2.2.2.2.2.2.2.1.getD v5.toNat (0, 0, 0, 0, 0, ())).2.2.2.1) && (((c0.2.2.2.2.2.2.2.1.getD v5.toNat (0, 0, 0, 0, 0, ())).2.2.2.2.1 == (c16.2.2.2.2.2.2.2.1.getD v5.toNat (0, 0, 0, 0, 0, ())).2.2.2.2.1) && true))))) then
       some (.fin (.ret (false, ())))
      else
      some (.next (wi64 (v5 + 1), c0, c16, ()))
     else none
    else none
   else none
  else none
 else
 some (.fin (.out ()))
def r20_Same_s0 (x : r20_Same_h0.T) : Option (SRes r20_Same_h0 r20_Same_o0 r20_Same_e0) := r20_Same_s0r x.1 x.2.1 x.2.2.1
def r20_Same_l0 (x : r20_Same_h0.T) : Option (LRes r20_Same_o0 r20_Same_e0) := iterL r20_Same_s0 9223372036854775808 x
def r20_Same_r (a0 : Wrld) (a1 : Wrld) : Option (Bool × Unit) :=
 bif !((a0.1.1 == a1.1.1) && ((a0.1.2.1 == a1.1.2.1) && ((a0.1.2.2.1 == a1.1.2.2.1) && ((a0.1.2.2.2.1 == a1.1.2.2.2.1) && ((a0.1.2.2.2.2.1 == a1.1.2.2.2.2.1) && true))))) then
  some (false, ())
 else
 bif a0.2.2.2.2.1 != a1.2.2.2.2.1 then
  some (false, ())
 else
 bif !(a0.2.2.2.2.2.1 == a1.2.2.2.2.2.1) then
  some (false, ())
 else
 bif a0.2.2.2.2.2.2.1 != a1.2.2.2.2.2.2.1 then
  some (false, ())
 else
 bif (a0.2.2.2.2.2.2.2.1.length : Int) != (a1.2.2.2.2.2.2.2.1.length : Int) then
  some (false, ())
 else
 (r07_Same (a0.2.1, a1.2.1, ())).bind fun y1 =>
 bif !y1.1 then
  some (false, ())
 else
 (r18_Sames (a0.2.2.1, a1.2.2.1, ())).bind fun y2 =>
 bif !y2.1 then
  some (false, ())
 else
 (r17_Same (a0.2.2.2.1, a1.2.2.2.1, ())).bind fun y3 =>
 bif !y3.1 then
  some (false, ())
 else
 (r20_Same_l0 (0, a0, a1, ())).bind fun s4 => match s4 with
 | .out s4 =>
  some (true, ())
 | .ret s4 =>
  some (s4.1, ())
def r20_Same (x : Wrld × Wrld × Unit) : Option (Bool × Unit) := r20_Same_r x.1 x.2.1
def r20_Same_sm : Sum := ⟨(.cons cWrld (.cons cWrld .nil)), (.cons (.d .bool) .nil), r20_Same⟩
def r20_Same_L0 : LoopSum := { hc := ⟨[], [2, 3, 5], [], [], [0, 16], [], 1008⟩, h := ⟨[(2, (.pvar 0 [])), (3, (.pvar 16 [])), (5, (.d cI))], [(0, (.d cWrld)), (16, (.d cWrld))], [], 1008⟩, xid := 0, oc := ⟨[], [], [], [], [], [], 1008⟩, o := ⟨[], [], [], 1008⟩, rc := ⟨[], [4], [], [], [], [], 1008⟩, r := ⟨[(4, (.d .bool))], [], [], 1008⟩, F := r20_Same_l0 }
def r20_Same_c : Ctx := ⟨[(42, r07_Same_sm), (43, r18_Sames_sm), (44, r17_Same_sm)], [], [⟨8, 14, 0, 0, r20_Same_L0⟩]⟩
theorem r20_Same_sem : SemOf Tryz.prog 14 r20_Same_sm := semC (c := r20_Same_c) Tryz.func14 (sc r07_Same_sem (sc r18_Sames_sem (sc r17_Same_sem an))) an (ec (aeC [true, true, false, true, false, false] r20_Same_s0 Tryz.func14) an) 8
abbrev cycle_Caches_h0 : U := (.cons (.sl cMut) (.cons cI (.cons cI (.cons (.sl (.arr 4 cI)) .nil))))
abbrev cycle_Caches_o0 : U := (.cons (.sl (.arr 4 cI)) .nil)
abbrev cycle_Caches_e0 : U := .nil
def cycle_Caches_s0r (v7 : List Mut) (v8 : Int) (v9 : Int) (r112 : List (List Int)) : Option (SRes cycle_Caches_h0 cycle_Caches_o0 cycle_Caches_e0) :=
 bif decide (v9 < v8) then
  bif decide (0 ≤ v9) then
   bif decide (v9 < (v7.length : Int)) then
    bif decide ((r112.length + 1) * 32 ≤ 140737488355328) then
     some (.next (v7, v8, wi64 (v9 + 1), r112 ++ [(v7.getD v9.toNat ([], 0, (0, 0, 0, 0, ()), 0, (0, 0, ()), List.replicate 4 0, ())).2.2.2.2.2.1], ()))
    else none
   else none
  else none
 else
 some (.fin (.out (r112, ())))
def cycle_Caches_s0 (x : cycle_Caches_h0.T) : Option (SRes cycle_Caches_h0 cycle_Caches_o0 cycle_Caches_e0) := cycle_Caches_s0r x.1 x.2.1 x.2.2.1 x.2.2.2.1
def cycle_Caches_l0 (x : cycle_Caches_h0.T) : Option (LRes cycle_Caches_o0 cycle_Caches_e0) := iterL cycle_Caches_s0 9223372036854775808 x
def cycle_Caches_r (a0 : Wrld) : Option ((List (List Int)) × Unit) :=
 (cycle_Caches_l0 (a0.2.2.1, (a0.2.2.1.length : Int), 0, [], ())).bind fun s1 => match s1 with
 | .out s1 =>
  some (s1.1, ())
 | .ret s1 =>
  none
def cycle_Caches (x : Wrld × Unit) : Option ((List (List Int)) × Unit) := cycle_Caches_r x.1
def cycle_Caches_sm : Sum := ⟨(.cons cWrld .nil), (.cons (.own (.arr 4 cI)) .nil), cycle_Caches⟩
def cycle_Caches_L0 : LoopSum := { hc := ⟨[], [3, 7, 8, 9], [(.tmp 3, (.arr 4 cI))], [], [], [], 112⟩, h := ⟨[(3, (.row 112)), (7, (.d (.sl cMut))), (8, (.d cI)), (9, (.d cI))], [], [(112, (.arr 4 cI), true)], 113⟩, xid := 0, oc := ⟨[], [3], [(.tmp 3, (.arr 4 cI))], [], [], [], 112⟩, o := ⟨[(3, (.row 112))], [], [(112, (.arr 4 cI), true)], 113⟩, rc := ⟨[], [], [], [], [112], [], 112⟩, r := ⟨[], [], [], 112⟩, F := cycle_Caches_l0 }
def cycle_Caches_c : Ctx := ⟨[], [], [⟨8, 75, 0, 0, cycle_Caches_L0⟩]⟩
theorem cycle_Caches_sem : SemOf Tryz.prog 75 cycle_Caches_sm := semC (c := cycle_Caches_c) Tryz.func75 an an (ec (aeC [true, true, false, true, false, false] cycle_Caches_s0 Tryz.func75) an) 8
def heap_page_r (a0 : Heap) (a1 : Int) : Option (Span × Bool × Unit) :=
 bif decide (a1 < 0) then
  some ((0, 0, 0, ()), false, ())
 else
 bif decide (a1 ≥ (a0.2.1.length : Int)) then
  some ((0, 0, 0, ()), false, ())
 else
 bif decide (0 ≤ a1) then
  bif decide (a1 < (a0.2.1.length : Int)) then
   some (a0.2.1.getD a1.toNat (0, 0, 0, ()), true, ())
  else none
 else none
def heap_page (x : Heap × Int × Unit) : Option (Span × Bool × Unit) := heap_page_r x.1 x.2.1
def heap_page_sm : Sum := ⟨(.cons cHeap (.cons cI .nil)), (.cons (.d cSpan) (.cons (.d .bool) .nil)), heap_page⟩
def heap_page_c : Ctx := ⟨[], [], []⟩
theorem heap_page_sem : SemOf Tryz.prog 264 heap_page_sm := semC (c := heap_page_c) Tryz.func264 an an an 8
def class_is_r (a0 : Int) : Option (Bool × Unit) :=
 bif decide (a0 ≥ 0) then
  some (decide (a0 < 4), ())
 else
 some (false, ())
def class_is (x : Int × Unit) : Option (Bool × Unit) := class_is_r x.1
def class_is_sm : Sum := ⟨(.cons cI .nil), (.cons (.d .bool) .nil), class_is⟩
def class_is_c : Ctx := ⟨[], [], []⟩
theorem class_is_sem : SemOf Tryz.prog 222 class_is_sm := semC (c := class_is_c) Tryz.func222 an an an 8
def class_Words_r (a0 : Int) : Option (Int × Unit) :=
 (class_is (a0, ())).bind fun y1 =>
 bif !y1.1 then
  some (0, ())
 else
 bif decide (0 ≤ a0) then
  bif decide (a0 < 4) then
   some (([2, 4, 8, 16] : List Int).getD a0.toNat 0, ())
  else none
 else none
def class_Words (x : Int × Unit) : Option (Int × Unit) := class_Words_r x.1
def class_Words_sm : Sum := ⟨(.cons cI .nil), (.cons (.d cI) .nil), class_Words⟩
def class_Words_c : Ctx := ⟨[(222, class_is_sm)], [], []⟩
theorem class_Words_sem : SemOf Tryz.prog 153 class_Words_sm := semC (c := class_Words_c) Tryz.func153 (sc class_is_sem an) an an 8
def arena_Place_r (a0 : Int) (a1 : Int) : Option (Int × Int × Bool × Unit) :=
 (class_Words (a0, ())).bind fun y1 =>
 bif y1.1 == 0 then
  some (0, 0, false, ())
 else
 bif decide (a1 < 0) then
  some (0, 0, false, ())
 else
 bif decide (a1 ≥ 512) then
  some (0, 0, false, ())
 else
 bif y1.1 == 0 then none else
 bif (a1.tmod y1.1) != 0 then
  some (0, 0, false, ())
 else
 bif y1.1 == 0 then none else
 some (wi64 (a1.tdiv 32), wi64 ((a1.tmod 32).tdiv y1.1), true, ())
def arena_Place (x : Val) : Option (Int × Int × Bool × Unit) := arena_Place_r x.1 x.2.1
def arena_Place_sm : Sum := ⟨cVal, (.cons (.d cI) (.cons (.d cI) (.cons (.d .bool) .nil))), arena_Place⟩
def arena_Place_c : Ctx := ⟨[(153, class_Words_sm)], [], []⟩
theorem arena_Place_sem : SemOf Tryz.prog 265 arena_Place_sm := semC (c := arena_Place_c) Tryz.func265 (sc class_Words_sem an) an an 8
def heap_Find_r (a0 : Heap) (a1 : Int) : Option (Int × Int × Bool × Unit) :=
 (heap_page (a0, wi64 (a1.tdiv 32), ())).bind fun y1 =>
 bif decide (a1 < 0) then
  some (0, 0, false, ())
 else
 bif !y1.2.1 then
  some (0, 0, false, ())
 else
 bif y1.1.1 == 0 then
  some (0, 0, false, ())
 else
 (arena_Place (y1.1.2.1, a1, ())).bind fun y2 =>
 some (y2.1, y2.2.1, y2.2.2.1, ())
def heap_Find (x : Heap × Int × Unit) : Option (Int × Int × Bool × Unit) := heap_Find_r x.1 x.2.1
def heap_Find_sm : Sum := ⟨(.cons cHeap (.cons cI .nil)), (.cons (.d cI) (.cons (.d cI) (.cons (.d .bool) .nil))), heap_Find⟩
def heap_Find_c : Ctx := ⟨[(264, heap_page_sm), (265, arena_Place_sm)], [], []⟩
theorem heap_Find_sem : SemOf Tryz.prog 201 heap_Find_sm := semC (c := heap_Find_c) Tryz.func201 (sc heap_page_sem (sc arena_Place_sem an)) an an 8
def header_May_r (a0 : Hdr) : Option (Bool × Unit) :=
 bif !a0.1 then
  some ((a0.1 == false) && ((a0.2.1 == false) && ((a0.2.2.1 == 0) && ((a0.2.2.2.1 == 0) && true))), ())
 else
 bif decide (a0.2.2.1 ≥ 0) then
  bif decide (a0.2.2.1 < 4) then
   bif decide (a0.2.2.2.1 ≥ 0) then
    bif decide (a0.2.2.1 < 0) then none else
    some (decide (a0.2.2.2.1 < (shiftI true .i64 2 a0.2.2.1)), ())
   else
   some (false, ())
  else
  some (false, ())
 else
 some (false, ())
def header_May (x : Hdr × Unit) : Option (Bool × Unit) := header_May_r x.1
def header_May_sm : Sum := ⟨(.cons cHdr .nil), (.cons (.d .bool) .nil), header_May⟩
def header_May_c : Ctx := ⟨[], [], []⟩
theorem header_May_sem : SemOf Tryz.prog 300 header_May_sm := semC (c := header_May_c) Tryz.func300 an an an 8
def header_Put_r (a0 : Hdr) : Option (Int × Bool × Unit) :=
 (header_May (a0, ())).bind fun y1 =>
 bif !y1.1 then
  some (0, false, ())
 else
 bif !a0.1 then
  some (0, true, ())
 else
 bif a0.2.1 then
  some (bitsI .or .u64 (wu64 (bitsI .or .i64 (bitsI .or .i64 128 (shiftI true .i64 a0.2.2.1 4)) (shiftI true .i64 a0.2.2.2.1 0))) 64, true, ())
 else
 some (wu64 (bitsI .or .i64 (bitsI .or .i64 128 (shiftI true .i64 a0.2.2.1 4)) (shiftI true .i64 a0.2.2.2.1 0)), true, ())
def header_Put (x : Hdr × Unit) : Option (Int × Bool × Unit) := header_Put_r x.1
def header_Put_sm : Sum := ⟨(.cons cHdr .nil), (.cons (.d (.int .u64)) (.cons (.d .bool) .nil)), header_Put⟩
def header_Put_c : Ctx := ⟨[(300, header_May_sm)], [], []⟩
theorem header_Put_sem : SemOf Tryz.prog 250 header_Put_sm := semC (c := header_Put_c) Tryz.func250 (sc header_May_sem an) an an 8
def header_Get_r (a0 : Int) : Option (Hdr × Bool × Unit) :=
 (header_Put (((bitsI .and .u64 a0 128) != 0, (bitsI .and .u64 a0 64) != 0, wi64 (bitsI .and .u64 (shiftI false .u64 a0 4) 3), wi64 (bitsI .and .u64 (shiftI false .u64 a0 0) 15), ()), ())).bind fun y1 =>
 bif !y1.2.1 then
  some ((false, false, 0, 0, ()), false, ())
 else
 bif y1.1 != a0 then
  some ((false, false, 0, 0, ()), false, ())
 else
 some (((bitsI .and .u64 a0 128) != 0, (bitsI .and .u64 a0 64) != 0, wi64 (bitsI .and .u64 (shiftI false .u64 a0 4) 3), wi64 (bitsI .and .u64 (shiftI false .u64 a0 0) 15), ()), true, ())
def header_Get (x : Int × Unit) : Option (Hdr × Bool × Unit) := header_Get_r x.1
def header_Get_sm : Sum := ⟨(.cons (.int .u64) .nil), (.cons (.cons (.d .bool) (.cons (.d .bool) (.cons (.d cI) (.cons (.d cI) .nil)))) (.cons (.d .bool) .nil)), header_Get⟩
def header_Get_c : Ctx := ⟨[(250, header_Put_sm)], [], []⟩
theorem header_Get_sem : SemOf Tryz.prog 202 header_Get_sm := semC (c := header_Get_c) Tryz.func202 (sc header_Put_sem an) an an 8
def object_Get_r (a0 : Heap) (a1 : Int) : Option (Hdr × Bool × Unit) :=
 (heap_Find (a0, a1, ())).bind fun y1 =>
 bif !y1.2.2.1 then
  some ((false, false, 0, 0, ()), false, ())
 else
 bif decide (0 ≤ a1) then
  bif decide (a1 < (a0.1.length : Int)) then
   (header_Get (a0.1.getD a1.toNat 0, ())).bind fun y2 =>
   bif !y2.2.1 then
    some ((false, false, 0, 0, ()), false, ())
   else
   bif !y2.1.1 then
    some ((false, false, 0, 0, ()), false, ())
   else
   bif decide ((wi64 (a1 + y2.1.2.2.2.1)) ≥ (wi64 ((wi64 (y1.1 + 1)) * 32))) then
    some ((false, false, 0, 0, ()), false, ())
   else
   some ((y2.1.1, y2.1.2.1, y2.1.2.2.1, y2.1.2.2.2.1, ()), true, ())
  else none
 else none
def object_Get (x : Heap × Int × Unit) : Option (Hdr × Bool × Unit) := object_Get_r x.1 x.2.1
def object_Get_sm : Sum := ⟨(.cons cHeap (.cons cI .nil)), (.cons (.cons (.d .bool) (.cons (.d .bool) (.cons (.d cI) (.cons (.d cI) .nil)))) (.cons (.d .bool) .nil)), object_Get⟩
def object_Get_c : Ctx := ⟨[(201, heap_Find_sm), (202, header_Get_sm)], [], []⟩
theorem object_Get_sem : SemOf Tryz.prog 130 object_Get_sm := semC (c := object_Get_c) Tryz.func130 (sc heap_Find_sem (sc header_Get_sem an)) an an 8
def object_Black_r (a0 : Heap) (a1 : Int) : Option (Bool × Unit) :=
 (object_Get (a0, a1, ())).bind fun y1 =>
 bif y1.2.1 then
  some (y1.1.2.1 == a0.2.2.1, ())
 else
 some (false, ())
def object_Black (x : Heap × Int × Unit) : Option (Bool × Unit) := object_Black_r x.1 x.2.1
def object_Black_sm : Sum := ⟨(.cons cHeap (.cons cI .nil)), (.cons (.d .bool) .nil), object_Black⟩
def object_Black_c : Ctx := ⟨[(130, object_Get_sm)], [], []⟩
theorem object_Black_sem : SemOf Tryz.prog 136 object_Black_sm := semC (c := object_Black_c) Tryz.func136 (sc object_Get_sem an) an an 8
def sweep_dirty_r (a0 : Span) : Option (Bool × Unit) :=
 some (a0.1 == 2, ())
def sweep_dirty (x : Span × Unit) : Option (Bool × Unit) := sweep_dirty_r x.1
def sweep_dirty_sm : Sum := ⟨(.cons cSpan .nil), (.cons (.d .bool) .nil), sweep_dirty⟩
def sweep_dirty_c : Ctx := ⟨[], [], []⟩
theorem sweep_dirty_sem : SemOf Tryz.prog 161 sweep_dirty_sm := semC (c := sweep_dirty_c) Tryz.func161 an an an 8
abbrev sweep_Begin_h0 : U := (.cons cI (.cons cI (.cons (.cons .bool .nil) (.cons (.cons .bool .nil) (.cons (.sl (.int .u64)) (.cons (.sl cSpan) .nil))))))
abbrev sweep_Begin_o0 : U := (.cons (.cons .bool .nil) (.cons (.cons .bool .nil) (.cons (.sl (.int .u64)) (.cons (.sl cSpan) .nil))))
abbrev sweep_Begin_e0 : U := .nil
def sweep_Begin_s0r (v14 : Int) (v15 : Int) (c0 : Bool × Unit) (c16 : Bool × Unit) (r64 : List Int) (r112 : List Span) : Option (SRes sweep_Begin_h0 sweep_Begin_o0 sweep_Begin_e0) :=
 bif decide (v15 < v14) then
  bif decide (0 ≤ v15) then
   bif decide (v15 < (r112.length : Int)) then
    bif (r112.getD v15.toNat (0, 0, 0, ())).1 == 1 then
     bif decide (0 ≤ v15) then
      bif decide (v15 < (r112.length : Int)) then
       some (.next (v14, wi64 (v15 + 1), c0, c16, r64, r112.set v15.toNat (2, (r112.getD v15.toNat (0, 0, 0, ())).2), ()))
      else none
     else none
    else
    some (.next (v14, wi64 (v15 + 1), c0, c16, r64, r112, ()))
   else none
  else none
 else
 some (.fin (.out (c0, c16, r64, r112, ())))
def sweep_Begin_s0 (x : sweep_Begin_h0.T) : Option (SRes sweep_Begin_h0 sweep_Begin_o0 sweep_Begin_e0) := sweep_Begin_s0r x.1 x.2.1 x.2.2.1 x.2.2.2.1 x.2.2.2.2.1 x.2.2.2.2.2.1
def sweep_Begin_l0 (x : sweep_Begin_h0.T) : Option (LRes sweep_Begin_o0 sweep_Begin_e0) := iterL sweep_Begin_s0 9223372036854775808 x
def sweep_Begin_r (a0 : Heap) : Option (Heap × Unit) :=
 (slices_Clone_uint64 (a0.1, ())).bind fun y1 =>
 (slices_Clone_api_Span (a0.2.1, ())).bind fun y2 =>
 (sweep_Begin_l0 ((y2.1.length : Int), 0, a0.2.2, (false, ()), y1.1, y2.1, ())).bind fun s3 => match s3 with
 | .out s3 =>
  some ((s3.2.2.1, s3.2.2.2.1, s3.1), ())
 | .ret s3 =>
  none
def sweep_Begin (x : Heap × Unit) : Option (Heap × Unit) := sweep_Begin_r x.1
def sweep_Begin_sm : Sum := ⟨(.cons cHeap .nil), (.cons (.cons (.own (.int .u64)) (.cons (.own cSpan) (.d (.cons .bool .nil)))) .nil), sweep_Begin⟩
def sweep_Begin_L0 : LoopSum := { hc := ⟨[], [1, 2, 14, 15], [], [], [0, 16], [64, 112], 256⟩, h := ⟨[(1, (.pvar 0 [])), (2, (.pvar 16 [])), (14, (.d cI)), (15, (.d cI))], [(0, (.cons (.row 64) (.cons (.row 112) (.d (.cons .bool .nil))))), (16, (.cons .nilsl (.cons .nilsl (.d (.cons .bool .nil)))))], [(64, (.int .u64), true), (112, cSpan, true)], 256⟩, xid := 0, oc := ⟨[], [1, 2], [], [], [0, 16], [64, 112], 256⟩, o := ⟨[(1, (.pvar 0 [])), (2, (.pvar 16 []))], [(0, (.cons (.row 64) (.cons (.row 112) (.d (.cons .bool .nil))))), (16, (.cons .nilsl (.cons .nilsl (.d (.cons .bool .nil)))))], [(64, (.int .u64), true), (112, cSpan, true)], 256⟩, rc := ⟨[], [], [], [], [256], [], 256⟩, r := ⟨[], [], [], 256⟩, F := sweep_Begin_l0 }
def sweep_Begin_c : Ctx := ⟨[(163, slices_Clone_api_Span_sm), (228, slices_Clone_uint64_sm)], [], [⟨8, 162, 0, 0, sweep_Begin_L0⟩]⟩
theorem sweep_Begin_sem : SemOf Tryz.prog 162 sweep_Begin_sm := semC (c := sweep_Begin_c) Tryz.func162 (sc slices_Clone_api_Span_sem (sc slices_Clone_uint64_sem an)) an (ec (aeC [true, true, false, true, false, false] sweep_Begin_s0 Tryz.func162) an) 8
def class_Blocks_r (a0 : Int) : Option (Int × Unit) :=
 (class_is (a0, ())).bind fun y1 =>
 bif !y1.1 then
  some (0, ())
 else
 bif decide (0 ≤ a0) then
  bif decide (a0 < 4) then
   bif (([2, 4, 8, 16] : List Int).getD a0.toNat 0) == 0 then none else
   some (wi64 ((32 : Int).tdiv (([2, 4, 8, 16] : List Int).getD a0.toNat 0)), ())
  else none
 else none
def class_Blocks (x : Int × Unit) : Option (Int × Unit) := class_Blocks_r x.1
def class_Blocks_sm : Sum := ⟨(.cons cI .nil), (.cons (.d cI) .nil), class_Blocks⟩
def class_Blocks_c : Ctx := ⟨[(222, class_is_sm)], [], []⟩
theorem class_Blocks_sem : SemOf Tryz.prog 164 class_Blocks_sm := semC (c := class_Blocks_c) Tryz.func164 (sc class_is_sem an) an an 8
def span_inUse_r (a0 : Span) : Option (Bool × Unit) :=
 bif a0.1 == 1 then
  some (true, ())
 else
 some (a0.1 == 2, ())
def span_inUse (x : Span × Unit) : Option (Bool × Unit) := span_inUse_r x.1
def span_inUse_sm : Sum := ⟨(.cons cSpan .nil), (.cons (.d .bool) .nil), span_inUse⟩
def span_inUse_c : Ctx := ⟨[], [], []⟩
theorem span_inUse_sem : SemOf Tryz.prog 220 span_inUse_sm := semC (c := span_inUse_c) Tryz.func220 an an an 8
def bits_one_r (a0 : Int) : Option (Int × Unit) :=
 bif decide (a0 < 0) then
  some (0, ())
 else
 bif decide (a0 ≥ 32) then
  some (0, ())
 else
 bif decide (a0 < 0) then none else
 some (shiftI true .u32 1 a0, ())
def bits_one (x : Int × Unit) : Option (Int × Unit) := bits_one_r x.1
def bits_one_sm : Sum := ⟨(.cons cI .nil), (.cons (.d (.int .u32)) .nil), bits_one⟩
def bits_one_c : Ctx := ⟨[], [], []⟩
theorem bits_one_sem : SemOf Tryz.prog 332 bits_one_sm := semC (c := bits_one_c) Tryz.func332 an an an 8
def bits_Whole_r (a0 : Int) : Option (Int × Unit) :=
 bif decide (a0 ≥ 32) then
  some (4294967295, ())
 else
 (bits_one (bif decide (a0 < 0) then 0 else a0, ())).bind fun y1 =>
 some (wu32 (y1.1 - 1), ())
def bits_Whole (x : Int × Unit) : Option (Int × Unit) := bits_Whole_r x.1
def bits_Whole_sm : Sum := ⟨(.cons cI .nil), (.cons (.d (.int .u32)) .nil), bits_Whole⟩
def bits_Whole_c : Ctx := ⟨[(332, bits_one_sm)], [], []⟩
theorem bits_Whole_sem : SemOf Tryz.prog 289 bits_Whole_sm := semC (c := bits_Whole_c) Tryz.func289 (sc bits_one_sem an) an an 8
def span_whole_r (a0 : Int) : Option (Int × Unit) :=
 (class_Blocks (a0, ())).bind fun y1 =>
 (bits_Whole (y1.1, ())).bind fun y2 =>
 some (y2.1, ())
def span_whole (x : Int × Unit) : Option (Int × Unit) := span_whole_r x.1
def span_whole_sm : Sum := ⟨(.cons cI .nil), (.cons (.d (.int .u32)) .nil), span_whole⟩
def span_whole_c : Ctx := ⟨[(164, class_Blocks_sm), (289, bits_Whole_sm)], [], []⟩
theorem span_whole_sem : SemOf Tryz.prog 232 span_whole_sm := semC (c := span_whole_c) Tryz.func232 (sc class_Blocks_sem (sc bits_Whole_sem an)) an an 8
def bits_Has_r (a0 : Int) (a1 : Int) : Option (Bool × Unit) :=
 (bits_one (a1, ())).bind fun y1 =>
 some ((bitsI .and .u32 a0 y1.1) != 0, ())
def bits_Has (x : Int × Int × Unit) : Option (Bool × Unit) := bits_Has_r x.1 x.2.1
def bits_Has_sm : Sum := ⟨(.cons (.int .u32) (.cons cI .nil)), (.cons (.d .bool) .nil), bits_Has⟩
def bits_Has_c : Ctx := ⟨[(332, bits_one_sm)], [], []⟩
theorem bits_Has_sem : SemOf Tryz.prog 287 bits_Has_sm := semC (c := bits_Has_c) Tryz.func287 (sc bits_one_sem an) an an 8
def bits_With_r (a0 : Int) (a1 : Int) : Option (Int × Unit) :=
 (bits_one (a1, ())).bind fun y1 =>
 some (bitsI .or .u32 a0 y1.1, ())
def bits_With (x : Int × Int × Unit) : Option (Int × Unit) := bits_With_r x.1 x.2.1
def bits_With_sm : Sum := ⟨(.cons (.int .u32) (.cons cI .nil)), (.cons (.d (.int .u32)) .nil), bits_With⟩
def bits_With_c : Ctx := ⟨[(332, bits_one_sm)], [], []⟩
theorem bits_With_sem : SemOf Tryz.prog 288 bits_With_sm := semC (c := bits_With_c) Tryz.func288 (sc bits_one_sem an) an an 8
def span_Give_r (a0 : Span) (a1 : Int) : Option (Span × Bool × Unit) :=
 (span_inUse (a0, ())).bind fun y1 =>
 bif !y1.1 then
  some (a0, false, ())
 else
 (span_whole (a0.2.1, ())).bind fun y2 =>
 (bits_Has (y2.1, a1, ())).bind fun y3 =>
 bif !y3.1 then
  some (a0, false, ())
 else
 (bits_Has (a0.2.2.1, a1, ())).bind fun y4 =>
 bif y4.1 then
  some (a0, false, ())
 else
 (bits_With (a0.2.2.1, a1, ())).bind fun y5 =>
 some ((a0.1, a0.2.1, y5.1, a0.2.2.2), true, ())
def span_Give (x : Span × Int × Unit) : Option (Span × Bool × Unit) := span_Give_r x.1 x.2.1
def span_Give_sm : Sum := ⟨(.cons cSpan (.cons cI .nil)), (.cons (.d cSpan) (.cons (.d .bool) .nil)), span_Give⟩
def span_Give_c : Ctx := ⟨[(220, span_inUse_sm), (232, span_whole_sm), (287, bits_Has_sm), (288, bits_With_sm)], [], []⟩
theorem span_Give_sem : SemOf Tryz.prog 231 span_Give_sm := semC (c := span_Give_c) Tryz.func231 (sc span_inUse_sem (sc span_whole_sem (sc bits_Has_sem (sc bits_With_sem an)))) an an 8
def span_Empty_r (a0 : Span) : Option (Bool × Unit) :=
 (span_inUse (a0, ())).bind fun y1 =>
 bif y1.1 then
  (span_whole (a0.2.1, ())).bind fun y2 =>
  some (a0.2.2.1 == y2.1, ())
 else
 some (false, ())
def span_Empty (x : Span × Unit) : Option (Bool × Unit) := span_Empty_r x.1
def span_Empty_sm : Sum := ⟨(.cons cSpan .nil), (.cons (.d .bool) .nil), span_Empty⟩
def span_Empty_c : Ctx := ⟨[(220, span_inUse_sm), (232, span_whole_sm)], [], []⟩
theorem span_Empty_sem : SemOf Tryz.prog 166 span_Empty_sm := semC (c := span_Empty_c) Tryz.func166 (sc span_inUse_sem (sc span_whole_sem an)) an an 8
abbrev slices_Index_h0 : U := (.cons (.sl cI) (.cons cI cVal))
abbrev slices_Index_o0 : U := .nil
abbrev slices_Index_e0 : U := (.cons cI .nil)
def slices_Index_s0r (v0 : List Int) (v1 : Int) (v7 : Int) (v8 : Int) : Option (SRes slices_Index_h0 slices_Index_o0 slices_Index_e0) :=
 bif decide (v8 < v7) then
  bif decide (0 ≤ v8) then
   bif decide (v8 < (v0.length : Int)) then
    bif v1 == (v0.getD v8.toNat 0) then
     some (.fin (.ret (v8, ())))
    else
    some (.next (v0, v1, v7, wi64 (v8 + 1), ()))
   else none
  else none
 else
 some (.fin (.out ()))
def slices_Index_s0 (x : slices_Index_h0.T) : Option (SRes slices_Index_h0 slices_Index_o0 slices_Index_e0) := slices_Index_s0r x.1 x.2.1 x.2.2.1 x.2.2.2.1
def slices_Index_l0 (x : slices_Index_h0.T) : Option (LRes slices_Index_o0 slices_Index_e0) := iterL slices_Index_s0 9223372036854775808 x
def slices_Index_r (a0 : List Int) (a1 : Int) : Option (Int × Unit) :=
 (slices_Index_l0 (a0, a1, (a0.length : Int), 0, ())).bind fun s1 => match s1 with
 | .out s1 =>
  some ((-1), ())
 | .ret s1 =>
  some (s1.1, ())
def slices_Index (x : (List Int) × Int × Unit) : Option (Int × Unit) := slices_Index_r x.1 x.2.1
def slices_Index_sm : Sum := ⟨(.cons (.sl cI) (.cons cI .nil)), (.cons (.d cI) .nil), slices_Index⟩
def slices_Index_L0 : LoopSum := { hc := ⟨[], [0, 1, 7, 8], [], [], [], [], 64⟩, h := ⟨[(0, (.d (.sl cI))), (1, (.d cI)), (7, (.d cI)), (8, (.d cI))], [], [], 64⟩, xid := 0, oc := ⟨[], [], [], [], [], [], 64⟩, o := ⟨[], [], [], 64⟩, rc := ⟨[], [4], [], [], [], [], 64⟩, r := ⟨[(4, (.d cI))], [], [], 64⟩, F := slices_Index_l0 }
def slices_Index_c : Ctx := ⟨[], [], [⟨8, 269, 0, 0, slices_Index_L0⟩]⟩
theorem slices_Index_sem : SemOf Tryz.prog 269 slices_Index_sm := semC (c := slices_Index_c) Tryz.func269 an an (ec (aeC [true, false, true, false, false] slices_Index_s0 Tryz.func269) an) 8
end
end Go.Proofs.YtkjpakaidjpjgaaGreatDoor.Den
