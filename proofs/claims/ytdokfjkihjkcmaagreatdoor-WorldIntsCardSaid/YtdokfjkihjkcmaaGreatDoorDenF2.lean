/- What functions come to. Printed by a program of this session. -/
import Derived.Test.YtdokfjkihjkcmaaGreatDoorDenF1
namespace Go.Proofs.YtdokfjkihjkcmaaGreatDoor.Den
open Go
set_option maxRecDepth 100000
set_option linter.unusedVariables false
noncomputable section
abbrev r05_Same_h0 : U := (.cons (.sl (.int .u64)) (.cons (.sl (.int .u64)) (.cons cI .nil)))
abbrev r05_Same_o0 : U := .nil
abbrev r05_Same_e0 : U := (.cons .bool .nil)
def r05_Same_s0r (v0 : List Int) (v1 : List Int) (v5 : Int) : Option (SRes r05_Same_h0 r05_Same_o0 r05_Same_e0) :=
 bif decide (v5 < (v0.length : Int)) then
  bif decide (0 ≤ v5) then
   bif decide (v5 < (v0.length : Int)) then
    bif decide (0 ≤ v5) then
     bif decide (v5 < (v1.length : Int)) then
      bif (v0.getD v5.toNat 0) != (v1.getD v5.toNat 0) then
       some (.fin (.ret (false, ())))
      else
      some (.next (v0, v1, wi64 (v5 + 1), ()))
     else none
    else none
   else none
  else none
 else
 some (.fin (.out ()))
def r05_Same_s0 (x : r05_Same_h0.T) : Option (SRes r05_Same_h0 r05_Same_o0 r05_Same_e0) := r05_Same_s0r x.1 x.2.1 x.2.2.1
def r05_Same_l0 (x : r05_Same_h0.T) : Option (LRes r05_Same_o0 r05_Same_e0) := iterL r05_Same_s0 9223372036854775808 x
def r05_Same_r (a0 : List Int) (a1 : List Int) : Option (Bool × Unit) :=
 bif (a0.length : Int) != (a1.length : Int) then
  some (false, ())
 else
 (r05_Same_l0 (a0, a1, 0, ())).bind fun s1 => match s1 with
 | .out s1 =>
  some (true, ())
 | .ret s1 =>
  some (s1.1, ())
def r05_Same (x : (List Int) × (List Int) × Unit) : Option (Bool × Unit) := r05_Same_r x.1 x.2.1
def r05_Same_sm : Sum := ⟨(.cons (.sl (.int .u64)) (.cons (.sl (.int .u64)) .nil)), (.cons (.d .bool) .nil), r05_Same⟩
def r05_Same_L0 : LoopSum := { hc := ⟨[], [0, 1, 5], [], [], [], [], 112⟩, h := ⟨[(0, (.d (.sl (.int .u64)))), (1, (.d (.sl (.int .u64)))), (5, (.d cI))], [], [], 112, false⟩, xid := 0, oc := ⟨[], [], [], [], [], [], 112⟩, o := ⟨[], [], [], 112, false⟩, rc := ⟨[], [4], [], [], [], [], 112⟩, r := ⟨[(4, (.d .bool))], [], [], 112, false⟩, F := r05_Same_l0 }
def r05_Same_c : Ctx := ⟨[], [], [⟨8, 29, 0, 0, r05_Same_L0⟩]⟩
theorem r05_Same_sem : SemOf Tryz.prog 29 r05_Same_sm := semC (c := r05_Same_c) Tryz.func29 an an (ec (aeC [true, true, false, true, false, false] r05_Same_s0 Tryz.func29) an) 8
abbrev r07_Same_h0 : U := (.cons cI (.cons cHeap (.cons cHeap .nil)))
abbrev r07_Same_o0 : U := .nil
abbrev r07_Same_e0 : U := (.cons .bool .nil)
def r07_Same_s0r (v5 : Int) (c0 : Heap) (c16 : Heap) : Option (SRes r07_Same_h0 r07_Same_o0 r07_Same_e0) :=
 bif decide (v5 < (c0.2.1.length : Int)) then
  bif decide (0 ≤ v5) then
   bif decide (v5 < (c0.2.1.length : Int)) then
    bif decide (0 ≤ v5) then
     bif decide (v5 < (c16.2.1.length : Int)) then
      bif !(((c0.2.1.getD v5.toNat (0, 0, 0, ())).1 == (c16.2.1.getD v5.toNat (0, 0, 0, ())).1) && (((c0.2.1.getD v5.toNat (0, 0, 0, ())).2.1 == (c16.2.1.getD v5.toNat (0, 0, 0, ())).2.1) && (((c0.2.1.getD v5.toNat (0, 0, 0, ())).2.2.1 == (c16.2.1.getD v5.toNat (0, 0, 0, ())).2.2.1) && true))) then
       some (.fin (.ret (false, ())))
      else
      some (.next (wi64 (v5 + 1), c0, c16, ()))
     else none
    else none
   else none
  else none
 else
 some (.fin (.out ()))
def r07_Same_s0 (x : r07_Same_h0.T) : Option (SRes r07_Same_h0 r07_Same_o0 r07_Same_e0) := r07_Same_s0r x.1 x.2.1 x.2.2.1
def r07_Same_l0 (x : r07_Same_h0.T) : Option (LRes r07_Same_o0 r07_Same_e0) := iterL r07_Same_s0 9223372036854775808 x
def r07_Same_r (a0 : Heap) (a1 : Heap) : Option (Bool × Unit) :=
 bif !(a0.2.2.1 == a1.2.2.1) then
  some (false, ())
 else
 bif (a0.2.1.length : Int) != (a1.2.1.length : Int) then
  some (false, ())
 else
 (r05_Same (a0.1, a1.1, ())).bind fun y1 =>
 bif !y1.1 then
  some (false, ())
 else
 (r07_Same_l0 (0, a0, a1, ())).bind fun s2 => match s2 with
 | .out s2 =>
  some (true, ())
 | .ret s2 =>
  some (s2.1, ())
def r07_Same (x : Heap × Heap × Unit) : Option (Bool × Unit) := r07_Same_r x.1 x.2.1
def r07_Same_sm : Sum := ⟨(.cons cHeap (.cons cHeap .nil)), (.cons (.d .bool) .nil), r07_Same⟩
def r07_Same_L0 : LoopSum := { hc := ⟨[], [2, 3, 5], [], [], [0, 16], [], 416⟩, h := ⟨[(2, (.pvar 0 [])), (3, (.pvar 16 [])), (5, (.d cI))], [(0, (.d cHeap)), (16, (.d cHeap))], [], 416, false⟩, xid := 0, oc := ⟨[], [], [], [], [], [], 416⟩, o := ⟨[], [], [], 416, false⟩, rc := ⟨[], [4], [], [], [], [], 416⟩, r := ⟨[(4, (.d .bool))], [], [], 416, false⟩, F := r07_Same_l0 }
def r07_Same_c : Ctx := ⟨[(29, r05_Same_sm)], [], [⟨8, 16, 0, 0, r07_Same_L0⟩]⟩
theorem r07_Same_sem : SemOf Tryz.prog 16 r07_Same_sm := semC (c := r07_Same_c) Tryz.func16 (sc r05_Same_sem an) an (ec (aeC [true, true, false, true, false, false] r07_Same_s0 Tryz.func16) an) 8
abbrev r01_Same_h0 : U := (.cons (.sl cVal) (.cons (.sl cVal) (.cons cI .nil)))
abbrev r01_Same_o0 : U := .nil
abbrev r01_Same_e0 : U := (.cons .bool .nil)
def r01_Same_s0r (v0 : List Val) (v1 : List Val) (v5 : Int) : Option (SRes r01_Same_h0 r01_Same_o0 r01_Same_e0) :=
 bif decide (v5 < (v0.length : Int)) then
  bif decide (0 ≤ v5) then
   bif decide (v5 < (v0.length : Int)) then
    bif decide (0 ≤ v5) then
     bif decide (v5 < (v1.length : Int)) then
      bif !(((v0.getD v5.toNat (0, 0, ())).1 == (v1.getD v5.toNat (0, 0, ())).1) && (((v0.getD v5.toNat (0, 0, ())).2.1 == (v1.getD v5.toNat (0, 0, ())).2.1) && true)) then
       some (.fin (.ret (false, ())))
      else
      some (.next (v0, v1, wi64 (v5 + 1), ()))
     else none
    else none
   else none
  else none
 else
 some (.fin (.out ()))
def r01_Same_s0 (x : r01_Same_h0.T) : Option (SRes r01_Same_h0 r01_Same_o0 r01_Same_e0) := r01_Same_s0r x.1 x.2.1 x.2.2.1
def r01_Same_l0 (x : r01_Same_h0.T) : Option (LRes r01_Same_o0 r01_Same_e0) := iterL r01_Same_s0 9223372036854775808 x
def r01_Same_r (a0 : List Val) (a1 : List Val) : Option (Bool × Unit) :=
 bif (a0.length : Int) != (a1.length : Int) then
  some (false, ())
 else
 (r01_Same_l0 (a0, a1, 0, ())).bind fun s1 => match s1 with
 | .out s1 =>
  some (true, ())
 | .ret s1 =>
  some (s1.1, ())
def r01_Same (x : (List Val) × (List Val) × Unit) : Option (Bool × Unit) := r01_Same_r x.1 x.2.1
def r01_Same_sm : Sum := ⟨(.cons (.sl cVal) (.cons (.sl cVal) .nil)), (.cons (.d .bool) .nil), r01_Same⟩
def r01_Same_L0 : LoopSum := { hc := ⟨[], [0, 1, 5], [], [], [], [], 112⟩, h := ⟨[(0, (.d (.sl cVal))), (1, (.d (.sl cVal))), (5, (.d cI))], [], [], 112, false⟩, xid := 0, oc := ⟨[], [], [], [], [], [], 112⟩, o := ⟨[], [], [], 112, false⟩, rc := ⟨[], [4], [], [], [], [], 112⟩, r := ⟨[(4, (.d .bool))], [], [], 112, false⟩, F := r01_Same_l0 }
def r01_Same_c : Ctx := ⟨[], [], [⟨8, 32, 0, 0, r01_Same_L0⟩]⟩
theorem r01_Same_sem : SemOf Tryz.prog 32 r01_Same_sm := semC (c := r01_Same_c) Tryz.func32 an an (ec (aeC [true, true, false, true, false, false] r01_Same_s0 Tryz.func32) an) 8
def r18_Same_r (a0 : Mut) (a1 : Mut) : Option (Bool × Unit) :=
 (r01_Same (a0.1, a1.1, ())).bind fun y1 =>
 bif y1.1 then
  bif a0.2.1 == a1.2.1 then
   bif (a0.2.2.1.1 == a1.2.2.1.1) && ((a0.2.2.1.2.1 == a1.2.2.1.2.1) && ((a0.2.2.1.2.2.1 == a1.2.2.1.2.2.1) && ((a0.2.2.1.2.2.2.1 == a1.2.2.1.2.2.2.1) && true))) then
    bif a0.2.2.2.1 == a1.2.2.2.1 then
     bif (a0.2.2.2.2.1.1 == a1.2.2.2.2.1.1) && ((a0.2.2.2.2.1.2.1 == a1.2.2.2.2.1.2.1) && true) then
      some ((List.zip a0.2.2.2.2.2.1 a1.2.2.2.2.2.1).all fun p => p.1 == p.2, ())
     else
     some (false, ())
    else
    some (false, ())
   else
   some (false, ())
  else
  some (false, ())
 else
 some (false, ())
def r18_Same (x : Mut × Mut × Unit) : Option (Bool × Unit) := r18_Same_r x.1 x.2.1
def r18_Same_sm : Sum := ⟨(.cons cMut (.cons cMut .nil)), (.cons (.d .bool) .nil), r18_Same⟩
def r18_Same_c : Ctx := ⟨[(32, r01_Same_sm)], [], []⟩
theorem r18_Same_sem : SemOf Tryz.prog 30 r18_Same_sm := semC (c := r18_Same_c) Tryz.func30 (sc r01_Same_sem an) an an 8
abbrev r18_Sames_h0 : U := (.cons (.sl cMut) (.cons (.sl cMut) (.cons cI .nil)))
abbrev r18_Sames_o0 : U := .nil
abbrev r18_Sames_e0 : U := (.cons .bool .nil)
def r18_Sames_s0r (v0 : List Mut) (v1 : List Mut) (v5 : Int) : Option (SRes r18_Sames_h0 r18_Sames_o0 r18_Sames_e0) :=
 bif decide (v5 < (v0.length : Int)) then
  bif decide (0 ≤ v5) then
   bif decide (v5 < (v0.length : Int)) then
    bif decide (0 ≤ v5) then
     bif decide (v5 < (v1.length : Int)) then
      (r18_Same (v0.getD v5.toNat ([], 0, (0, 0, 0, 0, ()), 0, (0, 0, ()), List.replicate 4 0, ()), v1.getD v5.toNat ([], 0, (0, 0, 0, 0, ()), 0, (0, 0, ()), List.replicate 4 0, ()), ())).bind fun y1 =>
      bif !y1.1 then
       some (.fin (.ret (false, ())))
      else
      some (.next (v0, v1, wi64 (v5 + 1), ()))
     else none
    else none
   else none
  else none
 else
 some (.fin (.out ()))
def r18_Sames_s0 (x : r18_Sames_h0.T) : Option (SRes r18_Sames_h0 r18_Sames_o0 r18_Sames_e0) := r18_Sames_s0r x.1 x.2.1 x.2.2.1
def r18_Sames_l0 (x : r18_Sames_h0.T) : Option (LRes r18_Sames_o0 r18_Sames_e0) := iterL r18_Sames_s0 9223372036854775808 x
def r18_Sames_r (a0 : List Mut) (a1 : List Mut) : Option (Bool × Unit) :=
 bif (a0.length : Int) != (a1.length : Int) then
  some (false, ())
 else
 (r18_Sames_l0 (a0, a1, 0, ())).bind fun s2 => match s2 with
 | .out s2 =>
  some (true, ())
 | .ret s2 =>
  some (s2.1, ())
def r18_Sames (x : (List Mut) × (List Mut) × Unit) : Option (Bool × Unit) := r18_Sames_r x.1 x.2.1
def r18_Sames_sm : Sum := ⟨(.cons (.sl cMut) (.cons (.sl cMut) .nil)), (.cons (.d .bool) .nil), r18_Sames⟩
def r18_Sames_L0 : LoopSum := { hc := ⟨[], [0, 1, 5], [], [], [], [], 112⟩, h := ⟨[(0, (.d (.sl cMut))), (1, (.d (.sl cMut))), (5, (.d cI))], [], [], 112, false⟩, xid := 0, oc := ⟨[], [], [], [], [], [], 112⟩, o := ⟨[], [], [], 112, false⟩, rc := ⟨[], [4], [], [], [], [], 112⟩, r := ⟨[(4, (.d .bool))], [], [], 112, false⟩, F := r18_Sames_l0 }
def r18_Sames_c : Ctx := ⟨[(30, r18_Same_sm)], [], [⟨8, 17, 0, 0, r18_Sames_L0⟩]⟩
theorem r18_Sames_sem : SemOf Tryz.prog 17 r18_Sames_sm := semC (c := r18_Sames_c) Tryz.func17 (sc r18_Same_sem an) an (ec (aeC [true, true, false, true, false, false] r18_Sames_s0 Tryz.func17) an) 8
abbrev r08_Ints_h0 : U := (.cons (.sl cI) (.cons (.sl cI) (.cons cI .nil)))
abbrev r08_Ints_o0 : U := .nil
abbrev r08_Ints_e0 : U := (.cons .bool .nil)
def r08_Ints_s0r (v0 : List Int) (v1 : List Int) (v5 : Int) : Option (SRes r08_Ints_h0 r08_Ints_o0 r08_Ints_e0) :=
 bif decide (v5 < (v0.length : Int)) then
  bif decide (0 ≤ v5) then
   bif decide (v5 < (v0.length : Int)) then
    bif decide (0 ≤ v5) then
     bif decide (v5 < (v1.length : Int)) then
      bif (v0.getD v5.toNat 0) != (v1.getD v5.toNat 0) then
       some (.fin (.ret (false, ())))
      else
      some (.next (v0, v1, wi64 (v5 + 1), ()))
     else none
    else none
   else none
  else none
 else
 some (.fin (.out ()))
def r08_Ints_s0 (x : r08_Ints_h0.T) : Option (SRes r08_Ints_h0 r08_Ints_o0 r08_Ints_e0) := r08_Ints_s0r x.1 x.2.1 x.2.2.1
def r08_Ints_l0 (x : r08_Ints_h0.T) : Option (LRes r08_Ints_o0 r08_Ints_e0) := iterL r08_Ints_s0 9223372036854775808 x
def r08_Ints_r (a0 : List Int) (a1 : List Int) : Option (Bool × Unit) :=
 bif (a0.length : Int) != (a1.length : Int) then
  some (false, ())
 else
 (r08_Ints_l0 (a0, a1, 0, ())).bind fun s1 => match s1 with
 | .out s1 =>
  some (true, ())
 | .ret s1 =>
  some (s1.1, ())
def r08_Ints (x : (List Int) × (List Int) × Unit) : Option (Bool × Unit) := r08_Ints_r x.1 x.2.1
def r08_Ints_sm : Sum := ⟨(.cons (.sl cI) (.cons (.sl cI) .nil)), (.cons (.d .bool) .nil), r08_Ints⟩
def r08_Ints_L0 : LoopSum := { hc := ⟨[], [0, 1, 5], [], [], [], [], 112⟩, h := ⟨[(0, (.d (.sl cI))), (1, (.d (.sl cI))), (5, (.d cI))], [], [], 112, false⟩, xid := 0, oc := ⟨[], [], [], [], [], [], 112⟩, o := ⟨[], [], [], 112, false⟩, rc := ⟨[], [4], [], [], [], [], 112⟩, r := ⟨[(4, (.d .bool))], [], [], 112, false⟩, F := r08_Ints_l0 }
def r08_Ints_c : Ctx := ⟨[], [], [⟨8, 43, 0, 0, r08_Ints_L0⟩]⟩
theorem r08_Ints_sem : SemOf Tryz.prog 43 r08_Ints_sm := semC (c := r08_Ints_c) Tryz.func43 an an (ec (aeC [true, true, false, true, false, false] r08_Ints_s0 Tryz.func43) an) 8
def r13_Same_r (a0 : Grey) (a1 : Grey) : Option (Bool × Unit) :=
 bif a0.1 == a1.1 then
  (r08_Ints (a0.2.1, a1.2.1, ())).bind fun y1 =>
  some (y1.1, ())
 else
 some (false, ())
def r13_Same (x : Grey × Grey × Unit) : Option (Bool × Unit) := r13_Same_r x.1 x.2.1
def r13_Same_sm : Sum := ⟨(.cons cGrey (.cons cGrey .nil)), (.cons (.d .bool) .nil), r13_Same⟩
def r13_Same_c : Ctx := ⟨[(43, r08_Ints_sm)], [], []⟩
theorem r13_Same_sem : SemOf Tryz.prog 31 r13_Same_sm := semC (c := r13_Same_c) Tryz.func31 (sc r08_Ints_sem an) an an 8
abbrev r17_Same_h0 : U := (.cons cI (.cons cMarker (.cons cMarker .nil)))
abbrev r17_Same_o0 : U := .nil
abbrev r17_Same_e0 : U := (.cons .bool .nil)
def r17_Same_s0r (v5 : Int) (c0 : Marker) (c16 : Marker) : Option (SRes r17_Same_h0 r17_Same_o0 r17_Same_e0) :=
 bif decide (v5 < (c0.2.1.length : Int)) then
  bif decide (0 ≤ v5) then
   bif decide (v5 < (c0.2.1.length : Int)) then
    bif decide (0 ≤ v5) then
     bif decide (v5 < (c16.2.1.length : Int)) then
      (r13_Same (c0.2.1.getD v5.toNat (0, [], ()), c16.2.1.getD v5.toNat (0, [], ()), ())).bind fun y3 =>
      bif !y3.1 then
       some (.fin (.ret (false, ())))
      else
      some (.next (wi64 (v5 + 1), c0, c16, ()))
     else none
    else none
   else none
  else none
 else
 some (.fin (.out ()))
def r17_Same_s0 (x : r17_Same_h0.T) : Option (SRes r17_Same_h0 r17_Same_o0 r17_Same_e0) := r17_Same_s0r x.1 x.2.1 x.2.2.1
def r17_Same_l0 (x : r17_Same_h0.T) : Option (LRes r17_Same_o0 r17_Same_e0) := iterL r17_Same_s0 9223372036854775808 x
def r17_Same_r (a0 : Marker) (a1 : Marker) : Option (Bool × Unit) :=
 bif a0.2.2.2.1 != a1.2.2.2.1 then
  some (false, ())
 else
 bif a0.2.2.2.2.1 != a1.2.2.2.2.1 then
  some (false, ())
 else
 bif a0.2.2.2.2.2.1 != a1.2.2.2.2.2.1 then
  some (false, ())
 else
 bif !(a0.2.2.2.2.2.2.1 == a1.2.2.2.2.2.2.1) then
  some (false, ())
 else
 (r13_Same (a0.1, a1.1, ())).bind fun y1 =>
 bif !y1.1 then
  some (false, ())
 else
 (r01_Same (a0.2.2.1, a1.2.2.1, ())).bind fun y2 =>
 bif !y2.1 then
  some (false, ())
 else
 bif (a0.2.1.length : Int) != (a1.2.1.length : Int) then
  some (false, ())
 else
 (r17_Same_l0 (0, a0, a1, ())).bind fun s4 => match s4 with
 | .out s4 =>
  some (true, ())
 | .ret s4 =>
  some (s4.1, ())
def r17_Same (x : Marker × Marker × Unit) : Option (Bool × Unit) := r17_Same_r x.1 x.2.1
def r17_Same_sm : Sum := ⟨(.cons cMarker (.cons cMarker .nil)), (.cons (.d .bool) .nil), r17_Same⟩
def r17_Same_L0 : LoopSum := { hc := ⟨[], [2, 3, 5], [], [], [0, 16], [], 880⟩, h := ⟨[(2, (.pvar 0 [])), (3, (.pvar 16 [])), (5, (.d cI))], [(0, (.d cMarker)), (16, (.d cMarker))], [], 880, false⟩, xid := 0, oc := ⟨[], [], [], [], [], [], 880⟩, o := ⟨[], [], [], 880, false⟩, rc := ⟨[], [4], [], [], [], [], 880⟩, r := ⟨[(4, (.d .bool))], [], [], 880, false⟩, F := r17_Same_l0 }
def r17_Same_c : Ctx := ⟨[(31, r13_Same_sm), (32, r01_Same_sm)], [], [⟨8, 18, 0, 0, r17_Same_L0⟩]⟩
theorem r17_Same_sem : SemOf Tryz.prog 18 r17_Same_sm := semC (c := r17_Same_c) Tryz.func18 (sc r13_Same_sem (sc r01_Same_sem an)) an (ec (aeC [true, true, false, true, false, false] r17_Same_s0 Tryz.func18) an) 8
abbrev r20_Same_h0 : U := (.cons cI (.cons cWrld (.cons cWrld .nil)))
abbrev r20_Same_o0 : U := .nil
abbrev r20_Same_e0 : U := (.cons .bool .nil)
def r20_Same_s0r (v5 : Int) (c0 : Wrld) (c16 : Wrld) : Option (SRes r20_Same_h0 r20_Same_o0 r20_Same_e0) :=
 bif decide (v5 < (c0.2.2.2.2.2.2.2.1.length : Int)) then
  bif decide (0 ≤ v5) then
   bif decide (v5 < (c0.2.2.2.2.2.2.2.1.length : Int)) then
    bif decide (0 ≤ v5) then
     bif decide (v5 < (c16.2.2.2.2.2.2.2.1.length : Int)) then
      bif !(((c0.2.2.2.2.2.2.2.1.getD v5.toNat (0, 0, 0, 0, 0, ())).1 == (c16.2.2.2.2.2.2.2.1.getD v5.toNat (0, 0, 0, 0, 0, ())).1) && (((c0.2.2.2.2.2.2.2.1.getD v5.toNat (0, 0, 0, 0, 0, ())).2.1 == (c16.2.2.2.2.2.2.2.1.getD v5.toNat (0, 0, 0, 0, 0, ())).2.1) && (((c0.2.2.2.2.2.2.2.1.getD v5.toNat (0, 0, 0, 0, 0, ())).2.2.1 == (c16.2.2.2.2.2.2.2.1.getD v5.toNat (0, 0, 0, 0, 0, ())).2.2.1) && (((c0.2.2.2.2.2.2.2.1.getD v5.toNat (0, 0, 0, 0, 0, ())).2.2.2.1 == (c16.2.2.2.2.2.2.2.1.getD v5.toNat (0, 0, 0, 0, 0, ())).2.2.2.1) && (((c0.2.2.2.2.2.2.2.1.getD v5.toNat (0, 0, 0, 0, 0, ())).2.2.2.2.1 == (c16.2.2.2.2.2.2.2.1.getD v5.toNat (0, 0, 0, 0, 0, ())).2.2.2.2.1) && true))))) then
       some (.fin (.ret (false, ())))
      else
      some (.next (wi64 (v5 + 1), c0, c16, ()))
     else none
    else none
   else none
  else none
 else
 some (.fin (.out ()))
def r20_Same_s0 (x : r20_Same_h0.T) : Option (SRes r20_Same_h0 r20_Same_o0 r20_Same_e0) := r20_Same_s0r x.1 x.2.1 x.2.2.1
def r20_Same_l0 (x : r20_Same_h0.T) : Option (LRes r20_Same_o0 r20_Same_e0) := iterL r20_Same_s0 9223372036854775808 x
def r20_Same_r (a0 : Wrld) (a1 : Wrld) : Option (Bool × Unit) :=
 bif !((a0.1.1 == a1.1.1) && ((a0.1.2.1 == a1.1.2.1) && ((a0.1.2.2.1 == a1.1.2.2.1) && ((a0.1.2.2.2.1 == a1.1.2.2.2.1) && ((a0.1.2.2.2.2.1 == a1.1.2.2.2.2.1) && true))))) then
  some (false, ())
 else
 bif a0.2.2.2.2.1 != a1.2.2.2.2.1 then
  some (false, ())
 else
 bif !(a0.2.2.2.2.2.1 == a1.2.2.2.2.2.1) then
  some (false, ())
 else
 bif a0.2.2.2.2.2.2.1 != a1.2.2.2.2.2.2.1 then
  some (false, ())
 else
 bif (a0.2.2.2.2.2.2.2.1.length : Int) != (a1.2.2.2.2.2.2.2.1.length : Int) then
  some (false, ())
 else
 (r07_Same (a0.2.1, a1.2.1, ())).bind fun y1 =>
 bif !y1.1 then
  some (false, ())
 else
 (r18_Sames (a0.2.2.1, a1.2.2.1, ())).bind fun y2 =>
 bif !y2.1 then
  some (false, ())
 else
 (r17_Same (a0.2.2.2.1, a1.2.2.2.1, ())).bind fun y3 =>
 bif !y3.1 then
  some (false, ())
 else
 (r20_Same_l0 (0, a0, a1, ())).bind fun s4 => match s4 with
 | .out s4 =>
  some (true, ())
 | .ret s4 =>
  some (s4.1, ())
def r20_Same (x : Wrld × Wrld × Unit) : Option (Bool × Unit) := r20_Same_r x.1 x.2.1
def r20_Same_sm : Sum := ⟨(.cons cWrld (.cons cWrld .nil)), (.cons (.d .bool) .nil), r20_Same⟩
def r20_Same_L0 : LoopSum := { hc := ⟨[], [2, 3, 5], [], [], [0, 16], [], 1008⟩, h := ⟨[(2, (.pvar 0 [])), (3, (.pvar 16 [])), (5, (.d cI))], [(0, (.d cWrld)), (16, (.d cWrld))], [], 1008, false⟩, xid := 0, oc := ⟨[], [], [], [], [], [], 1008⟩, o := ⟨[], [], [], 1008, false⟩, rc := ⟨[], [4], [], [], [], [], 1008⟩, r := ⟨[(4, (.d .bool))], [], [], 1008, false⟩, F := r20_Same_l0 }
def r20_Same_c : Ctx := ⟨[(16, r07_Same_sm), (17, r18_Sames_sm), (18, r17_Same_sm)], [], [⟨8, 9, 0, 0, r20_Same_L0⟩]⟩
theorem r20_Same_sem : SemOf Tryz.prog 9 r20_Same_sm := semC (c := r20_Same_c) Tryz.func9 (sc r07_Same_sem (sc r18_Sames_sem (sc r17_Same_sem an))) an (ec (aeC [true, true, false, true, false, false] r20_Same_s0 Tryz.func9) an) 8
abbrev r22_New_h0 : U := (.cons cI (.cons cRep (.cons cRep (.cons (.cons .bool .nil) (.cons cI (.cons .nil (.cons (.cons cI (.cons cI (.cons cI (.cons .bool .nil)))) (.cons cI (.cons .bool (.cons cI (.cons .nil (.cons cRep (.cons (.cons .bool .nil) (.cons cI (.cons .nil (.cons (.cons cI (.cons cI (.cons cI (.cons .bool .nil)))) (.cons cI (.cons .bool (.cons cI (.cons .nil (.cons (.sl (.int .u64)) (.cons (.sl cSpan) (.cons (.sl cMut) .nil)))))))))))))))))))))))
abbrev r22_New_o0 : U := (.cons cRep (.cons (.cons .bool .nil) (.cons cI (.cons .nil (.cons (.cons cI (.cons cI (.cons cI (.cons .bool .nil)))) (.cons cI (.cons .bool (.cons cI (.cons .nil (.cons cRep (.cons (.cons .bool .nil) (.cons cI (.cons .nil (.cons (.cons cI (.cons cI (.cons cI (.cons .bool .nil)))) (.cons cI (.cons .bool (.cons cI (.cons .nil (.cons (.sl (.int .u64)) (.cons (.sl cSpan) (.cons (.sl cMut) .nil)))))))))))))))))))))
abbrev r22_New_e0 : U := .nil
def r22_New_s0r (v4 : Int) (c0 : Rep) (c16_0 : Rep) (c16_1 : Bool × Unit) (c16_2 : Int) (c16_3 : Unit) (c16_4 : Int × Int × Int × Bool × Unit) (c16_5 : Int) (c16_6 : Bool) (c16_7 : Int) (c16_8 : Unit) (c64_0 : Rep) (c64_1 : Bool × Unit) (c64_2 : Int) (c64_3 : Unit) (c64_4 : Int × Int × Int × Bool × Unit) (c64_5 : Int) (c64_6 : Bool) (c64_7 : Int) (c64_8 : Unit) (r144 : List Int) (r240 : List Span) (r320 : List Mut) : Option (SRes r22_New_h0 r22_New_o0 r22_New_e0) :=
 bif decide (v4 < c0.2.1) then
  bif decide ((r320.length + 1) * 120 ≤ 140737488355328) then
   some (.next (wi64 (v4 + 1), c0, c16_0, c16_1, c16_2, c16_3, c16_4, c16_5, c16_6, c16_7, c16_8, c64_0, c64_1, c64_2, c64_3, c64_4, c64_5, c64_6, c64_7, c64_8, r144, r240, r320 ++ [([], 0, (0, 0, 0, 0, ()), 0, (0, 0, ()), ([(-1), (-1), (-1), (-1)] : List Int), ())], ()))
  else none
 else
 some (.fin (.out (c16_0, c16_1, c16_2, c16_3, c16_4, c16_5, c16_6, c16_7, c16_8, c64_0, c64_1, c64_2, c64_3, c64_4, c64_5, c64_6, c64_7, c64_8, r144, r240, r320, ())))
def r22_New_s0 (x : r22_New_h0.T) : Option (SRes r22_New_h0 r22_New_o0 r22_New_e0) := r22_New_s0r x.1 x.2.1 x.2.2.1 x.2.2.2.1 x.2.2.2.2.1 x.2.2.2.2.2.1 x.2.2.2.2.2.2.1 x.2.2.2.2.2.2.2.1 x.2.2.2.2.2.2.2.2.1 x.2.2.2.2.2.2.2.2.2.1 x.2.2.2.2.2.2.2.2.2.2.1 x.2.2.2.2.2.2.2.2.2.2.2.1 x.2.2.2.2.2.2.2.2.2.2.2.2.1 x.2.2.2.2.2.2.2.2.2.2.2.2.2.1 x.2.2.2.2.2.2.2.2.2.2.2.2.2.2.1 x.2.2.2.2.2.2.2.2.2.2.2.2.2.2.2.1 x.2.2.2.2.2.2.2.2.2.2.2.2.2.2.2.2.1 x.2.2.2.2.2.2.2.2.2.2.2.2.2.2.2.2.2.1 x.2.2.2.2.2.2.2.2.2.2.2.2.2.2.2.2.2.2.1 x.2.2.2.2.2.2.2.2.2.2.2.2.2.2.2.2.2.2.2.1 x.2.2.2.2.2.2.2.2.2.2.2.2.2.2.2.2.2.2.2.2.1 x.2.2.2.2.2.2.2.2.2.2.2.2.2.2.2.2.2.2.2.2.2.1 x.2.2.2.2.2.2.2.2.2.2.2.2.2.2.2.2.2.2.2.2.2.2.1
def r22_New_l0 (x : r22_New_h0.T) : Option (LRes r22_New_o0 r22_New_e0) := iterL r22_New_s0 9223372036854775808 x
def r22_New_r (a0 : Rep) : Option (Wrld × Unit) :=
 bif (wi64 (32 * a0.1)) == (wi64 (32 * a0.1)) then
  bif decide (0 ≤ (wi64 (32 * a0.1))) then
   bif decide ((wi64 (32 * a0.1)).toNat * 8 ≤ 140737488355328) then
    bif a0.1 == a0.1 then
     bif decide (0 ≤ a0.1) then
      bif decide (a0.1.toNat * 24 ≤ 140737488355328) then
       (r22_New_l0 (0, a0, (0, 0, 0, 0, 0, ()), (false, ()), 0, (), (0, 0, 0, false, ()), 0, false, 0, (), a0, (false, ()), 0, (), (0, 0, 0, false, ()), 0, false, 0, (), List.replicate (wi64 (32 * a0.1)).toNat (0 : Int), List.replicate a0.1.toNat ((0, 0, 0, ()) : Span), [], ())).bind fun s1 => match s1 with
       | .out s1 =>
        some ((s1.2.2.2.2.2.2.2.2.2.1, (s1.2.2.2.2.2.2.2.2.2.2.2.2.2.2.2.2.2.2.1, s1.2.2.2.2.2.2.2.2.2.2.2.2.2.2.2.2.2.2.2.1, s1.2.2.2.2.2.2.2.2.2.2.1), s1.2.2.2.2.2.2.2.2.2.2.2.2.2.2.2.2.2.2.2.2.1, ((s1.2.2.2.2.2.2.2.2.2.2.2.1, [], s1.2.2.2.2.2.2.2.2.2.2.2.2.1), [], [], s1.2.2.2.2.2.2.2.2.2.2.2.2.2.1), s1.2.2.2.2.2.2.2.2.2.2.2.2.2.2.1, s1.2.2.2.2.2.2.2.2.2.2.2.2.2.2.2.1, s1.2.2.2.2.2.2.2.2.2.2.2.2.2.2.2.2.1, [], s1.2.2.2.2.2.2.2.2.2.2.2.2.2.2.2.2.2.1), ())
       | .ret s1 =>
        none
      else none
     else none
    else none
   else none
  else none
 else none
def r22_New (x : Rep × Unit) : Option (Wrld × Unit) := r22_New_r x.1
def r22_New_sm : Sum := ⟨(.cons cRep .nil), (.cons (.cons (.d cRep) (.cons (.cons (.own (.int .u64)) (.cons (.own cSpan) (.d (.cons .bool .nil)))) (.cons (.own cMut) (.cons (.cons (.cons (.d cI) (.cons (.own cI) (.d .nil))) (.cons (.own cGrey) (.cons (.own cVal) (.d (.cons cI (.cons cI (.cons cI (.cons .bool .nil)))))))) (.cons (.d cI) (.cons (.d .bool) (.cons (.d cI) (.cons (.own cRep) (.d .nil))))))))) .nil), r22_New⟩
def r22_New_L0 : LoopSum := { hc := ⟨[], [1, 2, 3, 4], [(.key 64 [.fld 2], cMut)], [], [0, 16, 64], [144, 240], 320⟩, h := ⟨[(1, (.pvar 0 [])), (2, (.pvar 16 [])), (3, (.pvar 64 [])), (4, (.d cI))], [(0, (.d cRep)), (16, (.cons (.d cRep) (.cons (.cons .nilsl (.cons .nilsl (.d (.cons .bool .nil)))) (.cons .nilsl (.cons (.cons (.cons (.d cI) (.cons .nilsl (.d .nil))) (.cons .nilsl (.cons .nilsl (.d (.cons cI (.cons cI (.cons cI (.cons .bool .nil)))))))) (.cons (.d cI) (.cons (.d .bool) (.cons (.d cI) (.cons .nilsl (.d .nil)))))))))), (64, (.cons (.d cRep) (.cons (.cons (.row 144) (.cons (.row 240) (.d (.cons .bool .nil)))) (.cons (.row 320) (.cons (.cons (.cons (.d cI) (.cons .nilsl (.d .nil))) (.cons .nilsl (.cons .nilsl (.d (.cons cI (.cons cI (.cons cI (.cons .bool .nil)))))))) (.cons (.d cI) (.cons (.d .bool) (.cons (.d cI) (.cons .nilsl (.d .nil))))))))))], [(144, (.int .u64), true), (240, cSpan, true), (320, cMut, true)], 321, false⟩, xid := 0, oc := ⟨[], [2, 3], [(.ptr 3 [.fld 2], cMut)], [], [16, 64], [144, 240], 320⟩, o := ⟨[(2, (.pvar 16 [])), (3, (.pvar 64 []))], [(16, (.cons (.d cRep) (.cons (.cons .nilsl (.cons .nilsl (.d (.cons .bool .nil)))) (.cons .nilsl (.cons (.cons (.cons (.d cI) (.cons .nilsl (.d .nil))) (.cons .nilsl (.cons .nilsl (.d (.cons cI (.cons cI (.cons cI (.cons .bool .nil)))))))) (.cons (.d cI) (.cons (.d .bool) (.cons (.d cI) (.cons .nilsl (.d .nil)))))))))), (64, (.cons (.d cRep) (.cons (.cons (.row 144) (.cons (.row 240) (.d (.cons .bool .nil)))) (.cons (.row 320) (.cons (.cons (.cons (.d cI) (.cons .nilsl (.d .nil))) (.cons .nilsl (.cons .nilsl (.d (.cons cI (.cons cI (.cons cI (.cons .bool .nil)))))))) (.cons (.d cI) (.cons (.d .bool) (.cons (.d cI) (.cons .nilsl (.d .nil))))))))))], [(144, (.int .u64), true), (240, cSpan, true), (320, cMut, true)], 321, false⟩, rc := ⟨[], [], [], [], [320], [], 320⟩, r := ⟨[], [], [], 320, false⟩, F := r22_New_l0 }
def r22_New_c : Ctx := ⟨[], [], [⟨8, 10, 0, 0, r22_New_L0⟩]⟩
theorem r22_New_sem : SemOf Tryz.prog 10 r22_New_sm := semC (c := r22_New_c) Tryz.func10 an an (ec (aeC [true, true, true, true, false, true, false, false] r22_New_s0 Tryz.func10) an) 8
def class_Blocks_r (a0 : Int) : Option (Int × Unit) :=
 (class_is (a0, ())).bind fun y1 =>
 bif !y1.1 then
  some (0, ())
 else
 bif decide (0 ≤ a0) then
  bif decide (a0 < 4) then
   bif (([2, 4, 8, 16] : List Int).getD a0.toNat 0) == 0 then none else
   some (wi64 ((32 : Int).tdiv (([2, 4, 8, 16] : List Int).getD a0.toNat 0)), ())
  else none
 else none
def class_Blocks (x : Int × Unit) : Option (Int × Unit) := class_Blocks_r x.1
def class_Blocks_sm : Sum := ⟨(.cons cI .nil), (.cons (.d cI) .nil), class_Blocks⟩
def class_Blocks_c : Ctx := ⟨[(89, class_is_sm)], [], []⟩
theorem class_Blocks_sem : SemOf Tryz.prog 62 class_Blocks_sm := semC (c := class_Blocks_c) Tryz.func62 (sc class_is_sem an) an an 8
def span_inUse_r (a0 : Span) : Option (Bool × Unit) :=
 bif a0.1 == 1 then
  some (true, ())
 else
 some (a0.1 == 2, ())
def span_inUse (x : Span × Unit) : Option (Bool × Unit) := span_inUse_r x.1
def span_inUse_sm : Sum := ⟨(.cons cSpan .nil), (.cons (.d .bool) .nil), span_inUse⟩
def span_inUse_c : Ctx := ⟨[], [], []⟩
theorem span_inUse_sem : SemOf Tryz.prog 69 span_inUse_sm := semC (c := span_inUse_c) Tryz.func69 an an an 8
def bits_one_r (a0 : Int) : Option (Int × Unit) :=
 bif decide (a0 < 0) then
  some (0, ())
 else
 bif decide (a0 ≥ 32) then
  some (0, ())
 else
 bif decide (a0 < 0) then none else
 some (shiftI true .u32 1 a0, ())
def bits_one (x : Int × Unit) : Option (Int × Unit) := bits_one_r x.1
def bits_one_sm : Sum := ⟨(.cons cI .nil), (.cons (.d (.int .u32)) .nil), bits_one⟩
def bits_one_c : Ctx := ⟨[], [], []⟩
theorem bits_one_sem : SemOf Tryz.prog 123 bits_one_sm := semC (c := bits_one_c) Tryz.func123 an an an 8
def bits_Whole_r (a0 : Int) : Option (Int × Unit) :=
 bif decide (a0 ≥ 32) then
  some (4294967295, ())
 else
 (bits_one (bif decide (a0 < 0) then 0 else a0, ())).bind fun y1 =>
 some (wu32 (y1.1 - 1), ())
def bits_Whole (x : Int × Unit) : Option (Int × Unit) := bits_Whole_r x.1
def bits_Whole_sm : Sum := ⟨(.cons cI .nil), (.cons (.d (.int .u32)) .nil), bits_Whole⟩
def bits_Whole_c : Ctx := ⟨[(123, bits_one_sm)], [], []⟩
theorem bits_Whole_sem : SemOf Tryz.prog 96 bits_Whole_sm := semC (c := bits_Whole_c) Tryz.func96 (sc bits_one_sem an) an an 8
def span_whole_r (a0 : Int) : Option (Int × Unit) :=
 (class_Blocks (a0, ())).bind fun y1 =>
 (bits_Whole (y1.1, ())).bind fun y2 =>
 some (y2.1, ())
def span_whole (x : Int × Unit) : Option (Int × Unit) := span_whole_r x.1
def span_whole_sm : Sum := ⟨(.cons cI .nil), (.cons (.d (.int .u32)) .nil), span_whole⟩
def span_whole_c : Ctx := ⟨[(62, class_Blocks_sm), (96, bits_Whole_sm)], [], []⟩
theorem span_whole_sem : SemOf Tryz.prog 70 span_whole_sm := semC (c := span_whole_c) Tryz.func70 (sc class_Blocks_sem (sc bits_Whole_sem an)) an an 8
def span_Right_r (a0 : Span) : Option (Bool × Unit) :=
 bif a0.1 == 0 then
  some ((a0.1 == 0) && ((a0.2.1 == 0) && ((a0.2.2.1 == 0) && true)), ())
 else
 (span_inUse (a0, ())).bind fun y1 =>
 bif y1.1 then
  (class_Blocks (a0.2.1, ())).bind fun y2 =>
  bif decide (y2.1 > 0) then
   (span_whole (a0.2.1, ())).bind fun y3 =>
   some ((bitsI .andNot .u32 a0.2.2.1 y3.1) == 0, ())
  else
  some (false, ())
 else
 some (false, ())
def span_Right (x : Span × Unit) : Option (Bool × Unit) := span_Right_r x.1
def span_Right_sm : Sum := ⟨(.cons cSpan .nil), (.cons (.d .bool) .nil), span_Right⟩
def span_Right_c : Ctx := ⟨[(62, class_Blocks_sm), (69, span_inUse_sm), (70, span_whole_sm)], [], []⟩
theorem span_Right_sem : SemOf Tryz.prog 46 span_Right_sm := semC (c := span_Right_c) Tryz.func46 (sc class_Blocks_sem (sc span_inUse_sem (sc span_whole_sem an))) an an 8
def heap_Form_1_r (a0 : Span) : Option (Bool × Unit) :=
 (span_Right (a0, ())).bind fun y1 =>
 some (!y1.1, ())
def heap_Form_1 (x : Span × Unit) : Option (Bool × Unit) := heap_Form_1_r x.1
def heap_Form_1_sm : Sum := ⟨(.cons cSpan .nil), (.cons (.d .bool) .nil), heap_Form_1⟩
def heap_Form_1_c : Ctx := ⟨[(46, span_Right_sm)], [], []⟩
theorem heap_Form_1_sem : SemOf Tryz.prog 45 heap_Form_1_sm := semC (c := heap_Form_1_c) Tryz.func45 (sc span_Right_sem an) an an 8
abbrev heap_Form_h0 : U := (.cons (.sl cSpan) (.cons cI (.cons cI (.cons cHeap .nil))))
abbrev heap_Form_o0 : U := (.cons cHeap .nil)
abbrev heap_Form_e0 : U := (.cons cI (.cons cHeap .nil))
def heap_Form_s0r (v0 : List Span) (v7 : Int) (v8 : Int) (c0 : Heap) : Option (SRes heap_Form_h0 heap_Form_o0 heap_Form_e0) :=
 bif decide (v8 < v7) then
  bif decide (0 ≤ v8) then
   bif decide (v8 < (v0.length : Int)) then
    (heap_Form_1 (v0.getD v8.toNat (0, 0, 0, ()), ())).bind fun y1 =>
    bif y1.1 then
     some (.fin (.ret (v8, c0, ())))
    else
    some (.next (v0, v7, wi64 (v8 + 1), c0, ()))
   else none
  else none
 else
 some (.fin (.out (c0, ())))
def heap_Form_s0 (x : heap_Form_h0.T) : Option (SRes heap_Form_h0 heap_Form_o0 heap_Form_e0) := heap_Form_s0r x.1 x.2.1 x.2.2.1 x.2.2.2.1
def heap_Form_l0 (x : heap_Form_h0.T) : Option (LRes heap_Form_o0 heap_Form_e0) := iterL heap_Form_s0 9223372036854775808 x
def heap_Form_r (a0 : Heap) : Option (Bool × Unit) :=
 (heap_Form_l0 (a0.2.1, (a0.2.1.length : Int), 0, a0, ())).bind fun s2 => match s2 with
 | .out s2 =>
  bif decide ((s2.1.2.1.length : Int) ≥ 1) then
   bif decide ((s2.1.2.1.length : Int) ≤ 16) then
    some ((s2.1.1.length : Int) == (wi64 (32 * (s2.1.2.1.length : Int))), ())
   else
   some (false, ())
  else
  some (false, ())
 | .ret s2 =>
  bif !(decide (s2.1 ≥ 0)) then
   bif decide ((s2.2.1.2.1.length : Int) ≥ 1) then
    bif decide ((s2.2.1.2.1.length : Int) ≤ 16) then
     some ((s2.2.1.1.length : Int) == (wi64 (32 * (s2.2.1.2.1.length : Int))), ())
    else
    some (false, ())
   else
   some (false, ())
  else
  some (false, ())
def heap_Form (x : Heap × Unit) : Option (Bool × Unit) := heap_Form_r x.1
def heap_Form_sm : Sum := ⟨(.cons cHeap .nil), (.cons (.d .bool) .nil), heap_Form⟩
def heap_Form_L0 : LoopSum := { hc := ⟨[], [0, 1, 7, 8], [], [], [0], [], 256⟩, h := ⟨[(0, (.d (.sl cSpan))), (1, (.fn 45 .nil .nil)), (7, (.d cI)), (8, (.d cI))], [(0, (.d cHeap))], [], 256, false⟩, xid := 0, oc := ⟨[], [], [], [], [0], [], 256⟩, o := ⟨[], [(0, (.d cHeap))], [], 256, false⟩, rc := ⟨[], [4], [], [], [0], [], 256⟩, r := ⟨[(4, (.d cI))], [(0, (.d cHeap))], [], 256, false⟩, F := heap_Form_l0 }
def heap_Form_c : Ctx := ⟨[(45, heap_Form_1_sm)], [(44, Tryz.f44), (58, Tryz.f58)], [⟨6, 58, 192, 0, heap_Form_L0⟩]⟩
theorem heap_Form_sem : SemOf Tryz.prog 33 heap_Form_sm := semC (c := heap_Form_c) Tryz.func33 (sc heap_Form_1_sem an) (fc (flC Tryz.func44) (fc (flC Tryz.func58) an)) (ec (aeC [true, false, true, false, false] heap_Form_s0 Tryz.func58) an) 8
abbrev slices_Index_h0 : U := (.cons (.sl cI) (.cons cI cVal))
abbrev slices_Index_o0 : U := .nil
abbrev slices_Index_e0 : U := (.cons cI .nil)
def slices_Index_s0r (v0 : List Int) (v1 : Int) (v7 : Int) (v8 : Int) : Option (SRes slices_Index_h0 slices_Index_o0 slices_Index_e0) :=
 bif decide (v8 < v7) then
  bif decide (0 ≤ v8) then
   bif decide (v8 < (v0.length : Int)) then
    bif v1 == (v0.getD v8.toNat 0) then
     some (.fin (.ret (v8, ())))
    else
    some (.next (v0, v1, v7, wi64 (v8 + 1), ()))
   else none
  else none
 else
 some (.fin (.out ()))
def slices_Index_s0 (x : slices_Index_h0.T) : Option (SRes slices_Index_h0 slices_Index_o0 slices_Index_e0) := slices_Index_s0r x.1 x.2.1 x.2.2.1 x.2.2.2.1
def slices_Index_l0 (x : slices_Index_h0.T) : Option (LRes slices_Index_o0 slices_Index_e0) := iterL slices_Index_s0 9223372036854775808 x
def slices_Index_r (a0 : List Int) (a1 : Int) : Option (Int × Unit) :=
 (slices_Index_l0 (a0, a1, (a0.length : Int), 0, ())).bind fun s1 => match s1 with
 | .out s1 =>
  some ((-1), ())
 | .ret s1 =>
  some (s1.1, ())
def slices_Index (x : (List Int) × Int × Unit) : Option (Int × Unit) := slices_Index_r x.1 x.2.1
def slices_Index_sm : Sum := ⟨(.cons (.sl cI) (.cons cI .nil)), (.cons (.d cI) .nil), slices_Index⟩
def slices_Index_L0 : LoopSum := { hc := ⟨[], [0, 1, 7, 8], [], [], [], [], 64⟩, h := ⟨[(0, (.d (.sl cI))), (1, (.d cI)), (7, (.d cI)), (8, (.d cI))], [], [], 64, false⟩, xid := 0, oc := ⟨[], [], [], [], [], [], 64⟩, o := ⟨[], [], [], 64, false⟩, rc := ⟨[], [4], [], [], [], [], 64⟩, r := ⟨[(4, (.d cI))], [], [], 64, false⟩, F := slices_Index_l0 }
def slices_Index_c : Ctx := ⟨[], [], [⟨8, 71, 0, 0, slices_Index_L0⟩]⟩
theorem slices_Index_sem : SemOf Tryz.prog 71 slices_Index_sm := semC (c := slices_Index_c) Tryz.func71 an an (ec (aeC [true, false, true, false, false] slices_Index_s0 Tryz.func71) an) 8
def slices_Contains_r (a0 : List Int) (a1 : Int) : Option (Bool × Unit) :=
 (slices_Index (a0, a1, ())).bind fun y1 =>
 some (decide (y1.1 ≥ 0), ())
def slices_Contains (x : (List Int) × Int × Unit) : Option (Bool × Unit) := slices_Contains_r x.1 x.2.1
def slices_Contains_sm : Sum := ⟨(.cons (.sl cI) (.cons cI .nil)), (.cons (.d .bool) .nil), slices_Contains⟩
def slices_Contains_c : Ctx := ⟨[(71, slices_Index_sm)], [], []⟩
theorem slices_Contains_sem : SemOf Tryz.prog 47 slices_Contains_sm := semC (c := slices_Contains_c) Tryz.func47 (sc slices_Index_sem an) an an 8
abbrev take_Right_h0 : U := (.cons (.sl (.arr 4 cI)) (.cons cI (.cons cI (.cons (.arr 4 cI) (.cons cI (.cons cHeap (.cons (.sl cI) .nil)))))))
abbrev take_Right_o0 : U := (.cons (.sl (.arr 4 cI)) (.cons cI (.cons cI (.cons cHeap (.cons (.sl cI) .nil)))))
abbrev take_Right_e0 : U := (.cons .bool .nil)
def take_Right_s0r (v10 : List (List Int)) (v11 : Int) (v12 : Int) (v16 : List Int) (v17 : Int) (c0 : Heap) (r209 : List Int) : Option (SRes take_Right_h0 take_Right_o0 take_Right_e0) :=
 bif decide (v17 < 4) then
  bif decide (0 ≤ v17) then
   bif decide (v17 < 4) then
    bif (v16.getD v17.toNat 0) == (-1) then
     some (.next (v10, v11, v12, v16, wi64 (v17 + 1), c0, r209, ()))
    else
    bif decide ((v16.getD v17.toNat 0) < 0) then
     some (.fin (.ret (false, ())))
    else
    bif decide ((v16.getD v17.toNat 0) ≥ (c0.2.1.length : Int)) then
     some (.fin (.ret (false, ())))
    else
    bif decide (0 ≤ (v16.getD v17.toNat 0)) then
     bif decide ((v16.getD v17.toNat 0) < (c0.2.1.length : Int)) then
      bif (c0.2.1.getD (v16.getD v17.toNat 0).toNat (0, 0, 0, ())).1 == 0 then
       some (.fin (.ret (false, ())))
      else
      bif decide (0 ≤ (v16.getD v17.toNat 0)) then
       bif decide ((v16.getD v17.toNat 0) < (c0.2.1.length : Int)) then
        bif (c0.2.1.getD (v16.getD v17.toNat 0).toNat (0, 0, 0, ())).2.1 != v17 then
         some (.fin (.ret (false, ())))
        else
        (slices_Contains (r209, v16.getD v17.toNat 0, ())).bind fun y1 =>
        bif y1.1 then
         some (.fin (.ret (false, ())))
        else
        bif decide ((r209.length + 1) * 8 ≤ 140737488355328) then
         some (.next (v10, v11, v12, v16, wi64 (v17 + 1), c0, r209 ++ [v16.getD v17.toNat 0], ()))
        else none
       else none
      else none
     else none
    else none
   else none
  else none
 else
 some (.fin (.out (v10, v11, v12, c0, r209, ())))
def take_Right_s0 (x : take_Right_h0.T) : Option (SRes take_Right_h0 take_Right_o0 take_Right_e0) := take_Right_s0r x.1 x.2.1 x.2.2.1 x.2.2.2.1 x.2.2.2.2.1 x.2.2.2.2.2.1 x.2.2.2.2.2.2.1
def take_Right_l0 (x : take_Right_h0.T) : Option (LRes take_Right_o0 take_Right_e0) := iterL take_Right_s0 9223372036854775808 x
abbrev take_Right_h1 : U := (.cons (.sl (.arr 4 cI)) (.cons cI (.cons cI (.cons cHeap (.cons (.sl cI) .nil)))))
abbrev take_Right_o1 : U := .nil
abbrev take_Right_e1 : U := (.cons .bool .nil)
def take_Right_s1r (v10 : List (List Int)) (v11 : Int) (v12 : Int) (c0 : Heap) (r96 : List Int) : Option (SRes take_Right_h1 take_Right_o1 take_Right_e1) :=
 bif decide (v12 < v11) then
  bif decide (0 ≤ v12) then
   bif decide (v12 < (v10.length : Int)) then
    (take_Right_l0 (v10, v11, v12, v10.getD v12.toNat (List.replicate 4 0), 0, c0, r96, ())).bind fun s2 => match s2 with
    | .out s2 =>
     some (.next (s2.1, s2.2.1, wi64 (s2.2.2.1 + 1), s2.2.2.2.1, s2.2.2.2.2.1, ()))
    | .ret s2 =>
     some (.fin (.ret (s2.1, ())))
   else none
  else none
 else
 some (.fin (.out ()))
def take_Right_s1 (x : take_Right_h1.T) : Option (SRes take_Right_h1 take_Right_o1 take_Right_e1) := take_Right_s1r x.1 x.2.1 x.2.2.1 x.2.2.2.1 x.2.2.2.2.1
def take_Right_l1 (x : take_Right_h1.T) : Option (LRes take_Right_o1 take_Right_e1) := iterL take_Right_s1 9223372036854775808 x
def take_Right_r (a0 : Heap) (a1 : List (List Int)) : Option (Bool × Unit) :=
 (take_Right_l1 (a1, (a1.length : Int), 0, a0, [], ())).bind fun s3 => match s3 with
 | .out s3 =>
  some (true, ())
 | .ret s3 =>
  some (s3.1, ())
def take_Right (x : Heap × (List (List Int)) × Unit) : Option (Bool × Unit) := take_Right_r x.1 x.2.1
def take_Right_sm : Sum := ⟨(.cons cHeap (.cons (.sl (.arr 4 cI)) .nil)), (.cons (.d .bool) .nil), take_Right⟩
def take_Right_L0 : LoopSum := { hc := ⟨[], [2, 5, 10, 11, 12, 16, 17], [(.tmp 5, cI)], [], [0], [], 209⟩, h := ⟨[(2, (.pvar 0 [])), (5, (.row 209)), (10, (.d (.sl (.arr 4 cI)))), (11, (.d cI)), (12, (.d cI)), (16, (.d (.arr 4 cI))), (17, (.d cI))], [(0, (.d cHeap))], [(209, cI, true)], 210, false⟩, xid := 2, oc := ⟨[], [2, 5, 10, 11, 12], [(.tmp 5, cI)], [], [0], [], 209⟩, o := ⟨[(2, (.pvar 0 [])), (5, (.row 209)), (10, (.d (.sl (.arr 4 cI)))), (11, (.d cI)), (12, (.d cI))], [(0, (.d cHeap))], [(209, cI, true)], 210, false⟩, rc := ⟨[], [4], [], [], [], [], 209⟩, r := ⟨[(4, (.d .bool))], [], [], 209, false⟩, F := take_Right_l0 }
def take_Right_L1 : LoopSum := { hc := ⟨[], [2, 5, 10, 11, 12], [(.tmp 5, cI)], [], [0], [], 96⟩, h := ⟨[(2, (.pvar 0 [])), (5, (.row 96)), (10, (.d (.sl (.arr 4 cI)))), (11, (.d cI)), (12, (.d cI))], [(0, (.d cHeap))], [(96, cI, true)], 97, false⟩, xid := 0, oc := ⟨[], [], [], [], [], [], 96⟩, o := ⟨[], [], [], 96, false⟩, rc := ⟨[], [4], [], [], [], [], 96⟩, r := ⟨[(4, (.d .bool))], [], [], 96, false⟩, F := take_Right_l1 }
def take_Right_c : Ctx := ⟨[(47, slices_Contains_sm)], [], [⟨8, 35, 0, 2, take_Right_L0⟩, ⟨8, 35, 0, 0, take_Right_L1⟩]⟩
theorem take_Right_sem : SemOf Tryz.prog 35 take_Right_sm := semC (c := take_Right_c) Tryz.func35 (sc slices_Contains_sem an) an (ec (aeC [true, true, false, true, false, false, true, true, false, false, true, true, false, false] take_Right_s0 Tryz.func35) (ec (aeC [true, true, false, true, false, false] take_Right_s1 Tryz.func35) an)) 8
end
end Go.Proofs.YtdokfjkihjkcmaaGreatDoor.Den
