/- What functions come to. Printed by a program of this session. -/
import Derived.Test.YtkjpakaidjpjgaaGreatDoorDfnF2
namespace Go.Proofs.YtkjpakaidjpjgaaGreatDoor.Dfn
open Go
set_option maxRecDepth 100000
set_option linter.unusedVariables false
noncomputable section
abbrev r03_turned_h0 : U := (.cons (.int .u32) (.cons cI (.cons .bool (.cons cI (.cons (.arr 32 .bool) .nil)))))
abbrev r03_turned_o0 : U := (.cons cI (.cons .bool (.cons (.arr 32 .bool) .nil)))
abbrev r03_turned_e0 : U := .nil
def r03_turned_s0r (v0 : Int) (v1 : Int) (v2 : Bool) (v8 : Int) (c16 : List Bool) : Option (SRes r03_turned_h0 r03_turned_o0 r03_turned_e0) :=
 bif decide (v8 < 32) then
  (r03_Has (v0, v8, ())).bind fun y1 =>
  bif decide (0 ≤ v8) then
   bif decide (v8 < 32) then
    some (.next (v0, v1, v2, wi64 (v8 + 1), c16.set v8.toNat y1.1, ()))
   else none
  else none
 else
 some (.fin (.out (v1, v2, c16, ())))
def r03_turned_s0 (x : r03_turned_h0.T) : Option (SRes r03_turned_h0 r03_turned_o0 r03_turned_e0) := r03_turned_s0r x.1 x.2.1 x.2.2.1 x.2.2.2.1 x.2.2.2.2.1
def r03_turned_l0 (x : r03_turned_h0.T) : Option (LRes r03_turned_o0 r03_turned_e0) := iterL r03_turned_s0 9223372036854775808 x
def r03_turned_r (a0 : Int) (a1 : Int) (a2 : Bool) : Option (Int × Unit) :=
 (r03_turned_l0 (a0, a1, a2, 0, List.replicate 32 false, ())).bind fun s2 => match s2 with
 | .out s2 =>
  bif decide (s2.1 ≥ 0) then
   bif decide (s2.1 < 32) then
    bif decide (0 ≤ s2.1) then
     bif decide (s2.1 < 32) then
      (r03_Of (s2.2.2.1.set s2.1.toNat s2.2.1, ())).bind fun y3 =>
      some (y3.1, ())
     else none
    else none
   else
   (r03_Of (s2.2.2.1, ())).bind fun y4 =>
   some (y4.1, ())
  else
  (r03_Of (s2.2.2.1, ())).bind fun y5 =>
  some (y5.1, ())
 | .ret s2 =>
  none
def r03_turned (x : Int × Int × Bool × Unit) : Option (Int × Unit) := r03_turned_r x.1 x.2.1 x.2.2.1
def r03_turned_sm : Sum := ⟨(.cons (.int .u32) (.cons cI (.cons .bool .nil))), (.cons (.d (.int .u32)) .nil), r03_turned⟩
def r03_turned_L0 : LoopSum := { hc := ⟨[], [0, 1, 2, 7, 8], [], [], [16], [], 48⟩, h := ⟨[(0, (.d (.int .u32))), (1, (.d cI)), (2, (.d .bool)), (7, (.pvar 16 [])), (8, (.d cI))], [(16, (.d (.arr 32 .bool)))], [], 48⟩, xid := 0, oc := ⟨[], [1, 2, 7], [], [], [16], [], 48⟩, o := ⟨[(1, (.d cI)), (2, (.d .bool)), (7, (.pvar 16 []))], [(16, (.d (.arr 32 .bool)))], [], 48⟩, rc := ⟨[], [], [], [], [48], [], 48⟩, r := ⟨[], [], [], 48⟩, F := r03_turned_l0 }
def r03_turned_c : Ctx := ⟨[(84, r03_Has_sm), (254, r03_Of_sm)], [], [⟨8, 301, 0, 0, r03_turned_L0⟩]⟩
theorem r03_turned_sem : SemOf Tryz.prog 301 r03_turned_sm := semC (c := r03_turned_c) Tryz.func301 (sc r03_Has_sem (sc r03_Of_sem an)) an (ec (aeC [true, true, false, true, false, false] r03_turned_s0 Tryz.func301) an) 8
def r03_Without_r (a0 : Int) (a1 : Int) : Option (Int × Unit) :=
 (r03_turned (a0, a1, false, ())).bind fun y1 =>
 some (y1.1, ())
def r03_Without (x : Int × Int × Unit) : Option (Int × Unit) := r03_Without_r x.1 x.2.1
def r03_Without_sm : Sum := ⟨(.cons (.int .u32) (.cons cI .nil)), (.cons (.d (.int .u32)) .nil), r03_Without⟩
def r03_Without_c : Ctx := ⟨[(301, r03_turned_sm)], [], []⟩
theorem r03_Without_sem : SemOf Tryz.prog 255 r03_Without_sm := semC (c := r03_Without_c) Tryz.func255 (sc r03_turned_sem an) an an 8
abbrev r06_Take_h0 : U := (.cons cI (.cons cSpan (.cons cSpan .nil)))
abbrev r06_Take_o0 : U := (.cons cSpan (.cons cSpan .nil))
abbrev r06_Take_e0 : U := (.cons cI (.cons .bool (.cons cSpan .nil)))
def r06_Take_s0r (v5 : Int) (c0 : Span) (c16 : Span) : Option (SRes r06_Take_h0 r06_Take_o0 r06_Take_e0) :=
 bif decide (v5 < 16) then
  bif c0.1 == 1 then
   (r03_Has (c0.2.2.1, v5, ())).bind fun y1 =>
   bif y1.1 then
    (r03_Without (c0.2.2.1, v5, ())).bind fun y2 =>
    some (.fin (.ret (v5, true, (c0.1, c0.2.1, y2.1, c0.2.2.2), ())))
   else
   some (.next (wi64 (v5 + 1), c0, c16, ()))
  else
  some (.fin (.out (c0, c16, ())))
 else
 some (.fin (.out (c0, c16, ())))
def r06_Take_s0 (x : r06_Take_h0.T) : Option (SRes r06_Take_h0 r06_Take_o0 r06_Take_e0) := r06_Take_s0r x.1 x.2.1 x.2.2.1
def r06_Take_l0 (x : r06_Take_h0.T) : Option (LRes r06_Take_o0 r06_Take_e0) := iterL r06_Take_s0 9223372036854775808 x
def r06_Take_r (a0 : Span) : Option (Span × Int × Bool × Unit) :=
 (r06_Take_l0 (0, a0, (0, 0, 0, ()), ())).bind fun s3 => match s3 with
 | .out s3 =>
  some (s3.1, 0, false, ())
 | .ret s3 =>
  some (s3.2.2.1, s3.1, s3.2.1, ())
def r06_Take (x : Span × Unit) : Option (Span × Int × Bool × Unit) := r06_Take_r x.1
def r06_Take_sm : Sum := ⟨(.cons cSpan .nil), (.cons (.d cSpan) (.cons (.d cI) (.cons (.d .bool) .nil))), r06_Take⟩
def r06_Take_L0 : LoopSum := { hc := ⟨[], [1, 2, 5], [], [], [0, 16], [], 80⟩, h := ⟨[(1, (.pvar 0 [])), (2, (.pvar 16 [])), (5, (.d cI))], [(0, (.d cSpan)), (16, (.d cSpan))], [], 80⟩, xid := 0, oc := ⟨[], [1, 2], [], [], [0, 16], [], 80⟩, o := ⟨[(1, (.pvar 0 [])), (2, (.pvar 16 []))], [(0, (.d cSpan)), (16, (.d cSpan))], [], 80⟩, rc := ⟨[], [2, 3, 4], [], [], [16], [], 80⟩, r := ⟨[(2, (.pvar 16 [])), (3, (.d cI)), (4, (.d .bool))], [(16, (.d cSpan))], [], 80⟩, F := r06_Take_l0 }
def r06_Take_c : Ctx := ⟨[(84, r03_Has_sm), (255, r03_Without_sm)], [], [⟨8, 193, 0, 0, r06_Take_L0⟩]⟩
theorem r06_Take_sem : SemOf Tryz.prog 193 r06_Take_sm := semC (c := r06_Take_c) Tryz.func193 (sc r03_Has_sem (sc r03_Without_sem an)) an (ec (aeC [true, false, true, false, false] r06_Take_s0 Tryz.func193) an) 8
def r05_Address_r (a0 : Int) (a1 : Int) (a2 : Int) : Option (Int × Bool × Unit) :=
 bif decide (a0 < 0) then
  some (0, false, ())
 else
 bif decide (a0 > 15) then
  some (0, false, ())
 else
 bif decide (a2 < 0) then
  some (0, false, ())
 else
 (r04_Blocks (a1, ())).bind fun y1 =>
 bif decide (a2 ≥ y1.1) then
  some (0, false, ())
 else
 (r04_Words (a1, ())).bind fun y2 =>
 some (wi64 ((wi64 (32 * a0)) + (wi64 (a2 * y2.1))), true, ())
def r05_Address (x : Int × Val) : Option (Int × Bool × Unit) := r05_Address_r x.1 x.2.1 x.2.2.1
def r05_Address_sm : Sum := ⟨(.cons cI cVal), (.cons (.d cI) (.cons (.d .bool) .nil)), r05_Address⟩
def r05_Address_c : Ctx := ⟨[(82, r04_Words_sm), (83, r04_Blocks_sm)], [], []⟩
theorem r05_Address_sem : SemOf Tryz.prog 194 r05_Address_sm := semC (c := r05_Address_c) Tryz.func194 (sc r04_Words_sem (sc r04_Blocks_sem an)) an an 8
def r02_Put_r (a0 : Hdr) : Option (Int × Unit) :=
 bif !a0.1 then
  some (0, ())
 else
 bif a0.2.1 then
  some (wu64 (wi64 ((wi64 ((wi64 (128 + (wi64 (16 * a0.2.2.1)))) + a0.2.2.2.1)) + 64)), ())
 else
 some (wu64 (wi64 ((wi64 (128 + (wi64 (16 * a0.2.2.1)))) + a0.2.2.2.1)), ())
def r02_Put (x : Hdr × Unit) : Option (Int × Unit) := r02_Put_r x.1
def r02_Put_sm : Sum := ⟨(.cons cHdr .nil), (.cons (.d (.int .u64)) .nil), r02_Put⟩
def r02_Put_c : Ctx := ⟨[], [], []⟩
theorem r02_Put_sem : SemOf Tryz.prog 195 r02_Put_sm := semC (c := r02_Put_c) Tryz.func195 an an an 8
abbrev r07_Lay_h0 : U := (.cons cI (.cons cI (.cons cI (.cons cHeap (.cons (.cons .bool .nil) (.cons cSpan (.cons (.cons .bool .nil) (.cons (.sl (.int .u64)) (.cons (.sl cSpan) .nil)))))))))
abbrev r07_Lay_o0 : U := (.cons cI (.cons cI (.cons cHeap (.cons (.cons .bool .nil) (.cons cSpan (.cons (.cons .bool .nil) (.cons (.sl (.int .u64)) (.cons (.sl cSpan) .nil))))))))
abbrev r07_Lay_e0 : U := .nil
def r07_Lay_s0r (v2 : Int) (v13 : Int) (v15 : Int) (c0 : Heap) (c16 : Bool × Unit) (c608 : Span) (c768 : Bool × Unit) (r752 : List Int) (r753 : List Span) : Option (SRes r07_Lay_h0 r07_Lay_o0 r07_Lay_e0) :=
 (r04_Words (c608.2.1, ())).bind fun y5 =>
 bif decide (v15 < y5.1) then
  bif decide (0 ≤ (wi64 (v13 + v15))) then
   bif decide ((wi64 (v13 + v15)) < (r752.length : Int)) then
    some (.next (v2, v13, wi64 (v15 + 1), c0, c16, c608, c768, r752.set (wi64 (v13 + v15)).toNat 0, r753, ()))
   else none
  else none
 else
 some (.fin (.out (v2, v13, c0, c16, c608, c768, r752, r753, ())))
def r07_Lay_s0 (x : r07_Lay_h0.T) : Option (SRes r07_Lay_h0 r07_Lay_o0 r07_Lay_e0) := r07_Lay_s0r x.1 x.2.1 x.2.2.1 x.2.2.2.1 x.2.2.2.2.1 x.2.2.2.2.2.1 x.2.2.2.2.2.2.1 x.2.2.2.2.2.2.2.1 x.2.2.2.2.2.2.2.2.1
def r07_Lay_l0 (x : r07_Lay_h0.T) : Option (LRes r07_Lay_o0 r07_Lay_e0) := iterL r07_Lay_s0 9223372036854775808 x
def r07_Lay_r (a0 : Heap) (a1 : Int) (a2 : Int) : Option (Heap × Int × Bool × Unit) :=
 bif decide (a1 < 0) then
  some (a0, 0, false, ())
 else
 bif decide (a1 ≥ (a0.2.1.length : Int)) then
  some (a0, 0, false, ())
 else
 bif decide (a2 < 0) then
  some (a0, 0, false, ())
 else
 bif decide (0 ≤ a1) then
  bif decide (a1 < (a0.2.1.length : Int)) then
   (r04_Words ((a0.2.1.getD a1.toNat (0, 0, 0, ())).2.1, ())).bind fun y1 =>
   bif decide (a2 ≥ y1.1) then
    some (a0, 0, false, ())
   else
   bif decide (0 ≤ a1) then
    bif decide (a1 < (a0.2.1.length : Int)) then
     (r06_Take (a0.2.1.getD a1.toNat (0, 0, 0, ()), ())).bind fun y2 =>
     bif !y2.2.2.1 then
      some (a0, 0, false, ())
     else
     (r07_with (a0, a1, y2.1, ())).bind fun y3 =>
     (r05_Address (a1, y2.1.2.1, y2.2.1, ())).bind fun y4 =>
     (r07_Lay_l0 (a2, y4.1, 0, a0, (false, ()), y2.1, y3.1.2.2, y3.1.1, y3.1.2.1, ())).bind fun s6 => match s6 with
     | .out s6 =>
      (r02_Put ((true, s6.2.2.1.2.2.1, s6.2.2.2.2.1.2.1, s6.1, ()), ())).bind fun y7 =>
      bif decide (0 ≤ s6.2.1) then
       bif decide (s6.2.1 < (s6.2.2.2.2.2.2.1.length : Int)) then
        some ((s6.2.2.2.2.2.2.1.set s6.2.1.toNat y7.1, s6.2.2.2.2.2.2.2.1, s6.2.2.2.2.2.1), s6.2.1, true, ())
       else none
      else none
     | .ret s6 =>
      none
    else none
   else none
  else none
 else none
def r07_Lay (x : Heap × Val) : Option (Heap × Int × Bool × Unit) := r07_Lay_r x.1 x.2.1 x.2.2.1
def r07_Lay_sm : Sum := ⟨(.cons cHeap cVal), (.cons (.d cHeap) (.cons (.d cI) (.cons (.d .bool) .nil))), r07_Lay⟩
def r07_Lay_L0 : LoopSum := { hc := ⟨[], [2, 3, 6, 9, 12, 13, 15], [], [], [0, 16, 608, 768], [752, 753], 976⟩, h := ⟨[(2, (.d cI)), (3, (.pvar 0 [])), (6, (.pvar 16 [])), (9, (.pvar 608 [])), (12, (.pvar 768 [])), (13, (.d cI)), (15, (.d cI))], [(0, (.d cHeap)), (16, (.cons .nilsl (.cons .nilsl (.d (.cons .bool .nil))))), (608, (.d cSpan)), (768, (.cons (.row 752) (.cons (.row 753) (.d (.cons .bool .nil)))))], [(752, (.int .u64), true), (753, cSpan, true)], 976⟩, xid := 0, oc := ⟨[], [2, 3, 6, 9, 12, 13], [], [], [0, 16, 608, 768], [752, 753], 976⟩, o := ⟨[(2, (.d cI)), (3, (.pvar 0 [])), (6, (.pvar 16 [])), (9, (.pvar 608 [])), (12, (.pvar 768 [])), (13, (.d cI))], [(0, (.d cHeap)), (16, (.cons .nilsl (.cons .nilsl (.d (.cons .bool .nil))))), (608, (.d cSpan)), (768, (.cons (.row 752) (.cons (.row 753) (.d (.cons .bool .nil)))))], [(752, (.int .u64), true), (753, cSpan, true)], 976⟩, rc := ⟨[], [], [], [], [976], [], 976⟩, r := ⟨[], [], [], 976⟩, F := r07_Lay_l0 }
def r07_Lay_c : Ctx := ⟨[(82, r04_Words_sm), (191, r07_with_sm), (193, r06_Take_sm), (194, r05_Address_sm), (195, r02_Put_sm)], [], [⟨8, 116, 0, 0, r07_Lay_L0⟩]⟩
theorem r07_Lay_sem : SemOf Tryz.prog 116 r07_Lay_sm := semC (c := r07_Lay_c) Tryz.func116 (sc r04_Words_sem (sc r07_with_sem (sc r06_Take_sem (sc r05_Address_sem (sc r02_Put_sem an))))) an (ec (aeC [true, true, true, true, true, true, false, true, false, false] r07_Lay_s0 Tryz.func116) an) 8
abbrev r07_Find_h0 : U := (.cons cI (.cons cI (.cons cI (.cons cHeap .nil))))
abbrev r07_Find_o0 : U := (.cons cI (.cons cI (.cons cHeap .nil)))
abbrev r07_Find_e0 : U := (.cons cI (.cons cI (.cons .bool .nil)))
def r07_Find_s0r (v1 : Int) (v7 : Int) (v8 : Int) (c0 : Heap) : Option (SRes r07_Find_h0 r07_Find_o0 r07_Find_e0) :=
 bif decide (0 ≤ v7) then
  bif decide (v7 < (c0.2.1.length : Int)) then
   (r04_Blocks ((c0.2.1.getD v7.toNat (0, 0, 0, ())).2.1, ())).bind fun y1 =>
   bif decide (v8 < y1.1) then
    bif decide (0 ≤ v7) then
     bif decide (v7 < (c0.2.1.length : Int)) then
      (r04_Words ((c0.2.1.getD v7.toNat (0, 0, 0, ())).2.1, ())).bind fun y2 =>
      bif (wi64 ((wi64 (32 * v7)) + (wi64 (v8 * y2.1)))) == v1 then
       some (.fin (.ret (v7, v8, true, ())))
      else
      some (.next (v1, v7, wi64 (v8 + 1), c0, ()))
     else none
    else none
   else
   some (.fin (.out (v1, v7, c0, ())))
  else none
 else none
def r07_Find_s0 (x : r07_Find_h0.T) : Option (SRes r07_Find_h0 r07_Find_o0 r07_Find_e0) := r07_Find_s0r x.1 x.2.1 x.2.2.1 x.2.2.2.1
def r07_Find_l0 (x : r07_Find_h0.T) : Option (LRes r07_Find_o0 r07_Find_e0) := iterL r07_Find_s0 9223372036854775808 x
abbrev r07_Find_h1 : U := (.cons cI (.cons cI (.cons cHeap .nil)))
abbrev r07_Find_o1 : U := .nil
abbrev r07_Find_e1 : U := (.cons cI (.cons cI (.cons .bool .nil)))
def r07_Find_s1r (v1 : Int) (v7 : Int) (c0 : Heap) : Option (SRes r07_Find_h1 r07_Find_o1 r07_Find_e1) :=
 bif decide (v7 < (c0.2.1.length : Int)) then
  bif decide (0 ≤ v7) then
   bif decide (v7 < (c0.2.1.length : Int)) then
    bif (c0.2.1.getD v7.toNat (0, 0, 0, ())).1 == 0 then
     some (.next (v1, wi64 (v7 + 1), c0, ()))
    else
    (r07_Find_l0 (v1, v7, 0, c0, ())).bind fun s3 => match s3 with
    | .out s3 =>
     some (.next (s3.1, wi64 (s3.2.1 + 1), s3.2.2.1, ()))
    | .ret s3 =>
     some (.fin (.ret (s3.1, s3.2.1, s3.2.2.1, ())))
   else none
  else none
 else
 some (.fin (.out ()))
def r07_Find_s1 (x : r07_Find_h1.T) : Option (SRes r07_Find_h1 r07_Find_o1 r07_Find_e1) := r07_Find_s1r x.1 x.2.1 x.2.2.1
def r07_Find_l1 (x : r07_Find_h1.T) : Option (LRes r07_Find_o1 r07_Find_e1) := iterL r07_Find_s1 9223372036854775808 x
def r07_Find_r (a0 : Heap) (a1 : Int) : Option (Int × Int × Bool × Unit) :=
 (r07_Find_l1 (a1, 0, a0, ())).bind fun s4 => match s4 with
 | .out s4 =>
  some (0, 0, false, ())
 | .ret s4 =>
  some (s4.1, s4.2.1, s4.2.2.1, ())
def r07_Find (x : Heap × Int × Unit) : Option (Int × Int × Bool × Unit) := r07_Find_r x.1 x.2.1
def r07_Find_sm : Sum := ⟨(.cons cHeap (.cons cI .nil)), (.cons (.d cI) (.cons (.d cI) (.cons (.d .bool) .nil))), r07_Find⟩
def r07_Find_L0 : LoopSum := { hc := ⟨[], [1, 2, 7, 8], [], [], [0], [], 288⟩, h := ⟨[(1, (.d cI)), (2, (.pvar 0 [])), (7, (.d cI)), (8, (.d cI))], [(0, (.d cHeap))], [], 288⟩, xid := 2, oc := ⟨[], [1, 2, 7], [], [], [0], [], 288⟩, o := ⟨[(1, (.d cI)), (2, (.pvar 0 [])), (7, (.d cI))], [(0, (.d cHeap))], [], 288⟩, rc := ⟨[], [4, 5, 6], [], [], [], [], 288⟩, r := ⟨[(4, (.d cI)), (5, (.d cI)), (6, (.d .bool))], [], [], 288⟩, F := r07_Find_l0 }
def r07_Find_L1 : LoopSum := { hc := ⟨[], [1, 2, 7], [], [], [0], [], 80⟩, h := ⟨[(1, (.d cI)), (2, (.pvar 0 [])), (7, (.d cI))], [(0, (.d cHeap))], [], 80⟩, xid := 0, oc := ⟨[], [], [], [], [], [], 80⟩, o := ⟨[], [], [], 80⟩, rc := ⟨[], [4, 5, 6], [], [], [], [], 80⟩, r := ⟨[(4, (.d cI)), (5, (.d cI)), (6, (.d .bool))], [], [], 80⟩, F := r07_Find_l1 }
def r07_Find_c : Ctx := ⟨[(82, r04_Words_sm), (83, r04_Blocks_sm)], [], [⟨8, 141, 0, 2, r07_Find_L0⟩, ⟨8, 141, 0, 0, r07_Find_L1⟩]⟩
theorem r07_Find_sem : SemOf Tryz.prog 141 r07_Find_sm := semC (c := r07_Find_c) Tryz.func141 (sc r04_Words_sem (sc r04_Blocks_sem an)) an (ec (aeC [true, false, true, false, false, true, false, false, true, true, false, false] r07_Find_s0 Tryz.func141) (ec (aeC [true, false, true, false, false] r07_Find_s1 Tryz.func141) an)) 8
def r06_InUse_r (a0 : Span) : Option (Bool × Unit) :=
 bif a0.1 == 1 then
  some (true, ())
 else
 some (a0.1 == 2, ())
def r06_InUse (x : Span × Unit) : Option (Bool × Unit) := r06_InUse_r x.1
def r06_InUse_sm : Sum := ⟨(.cons cSpan .nil), (.cons (.d .bool) .nil), r06_InUse⟩
def r06_InUse_c : Ctx := ⟨[], [], []⟩
theorem r06_InUse_sem : SemOf Tryz.prog 219 r06_InUse_sm := semC (c := r06_InUse_c) Tryz.func219 an an an 8
def r03_With_r (a0 : Int) (a1 : Int) : Option (Int × Unit) :=
 (r03_turned (a0, a1, true, ())).bind fun y1 =>
 some (y1.1, ())
def r03_With (x : Int × Int × Unit) : Option (Int × Unit) := r03_With_r x.1 x.2.1
def r03_With_sm : Sum := ⟨(.cons (.int .u32) (.cons cI .nil)), (.cons (.d (.int .u32)) .nil), r03_With⟩
def r03_With_c : Ctx := ⟨[(301, r03_turned_sm)], [], []⟩
theorem r03_With_sem : SemOf Tryz.prog 291 r03_With_sm := semC (c := r03_With_c) Tryz.func291 (sc r03_turned_sem an) an an 8
def r06_Give_r (a0 : Span) (a1 : Int) : Option (Span × Bool × Unit) :=
 (r06_InUse (a0, ())).bind fun y1 =>
 bif !y1.1 then
  some (a0, false, ())
 else
 bif decide (a1 < 0) then
  some (a0, false, ())
 else
 (r04_Blocks (a0.2.1, ())).bind fun y2 =>
 bif decide (a1 ≥ y2.1) then
  some (a0, false, ())
 else
 (r03_Has (a0.2.2.1, a1, ())).bind fun y3 =>
 bif y3.1 then
  some (a0, false, ())
 else
 (r03_With (a0.2.2.1, a1, ())).bind fun y4 =>
 some ((a0.1, a0.2.1, y4.1, a0.2.2.2), true, ())
def r06_Give (x : Span × Int × Unit) : Option (Span × Bool × Unit) := r06_Give_r x.1 x.2.1
def r06_Give_sm : Sum := ⟨(.cons cSpan (.cons cI .nil)), (.cons (.d cSpan) (.cons (.d .bool) .nil)), r06_Give⟩
def r06_Give_c : Ctx := ⟨[(83, r04_Blocks_sm), (84, r03_Has_sm), (219, r06_InUse_sm), (291, r03_With_sm)], [], []⟩
theorem r06_Give_sem : SemOf Tryz.prog 236 r06_Give_sm := semC (c := r06_Give_c) Tryz.func236 (sc r04_Blocks_sem (sc r03_Has_sem (sc r06_InUse_sem (sc r03_With_sem an)))) an an 8
abbrev r03_Count_h0 : U := (.cons (.int .u32) cVal)
abbrev r03_Count_o0 : U := (.cons cI .nil)
abbrev r03_Count_e0 : U := .nil
def r03_Count_s0r (v0 : Int) (v3 : Int) (v4 : Int) : Option (SRes r03_Count_h0 r03_Count_o0 r03_Count_e0) :=
 bif decide (v4 < 32) then
  (r03_Has (v0, v4, ())).bind fun y1 =>
  bif y1.1 then
   some (.next (v0, wi64 (v3 + 1), wi64 (v4 + 1), ()))
  else
  some (.next (v0, v3, wi64 (v4 + 1), ()))
 else
 some (.fin (.out (v3, ())))
def r03_Count_s0 (x : r03_Count_h0.T) : Option (SRes r03_Count_h0 r03_Count_o0 r03_Count_e0) := r03_Count_s0r x.1 x.2.1 x.2.2.1
def r03_Count_l0 (x : r03_Count_h0.T) : Option (LRes r03_Count_o0 r03_Count_e0) := iterL r03_Count_s0 9223372036854775808 x
def r03_Count_r (a0 : Int) : Option (Int × Unit) :=
 (r03_Count_l0 (a0, 0, 0, ())).bind fun s2 => match s2 with
 | .out s2 =>
  some (s2.1, ())
 | .ret s2 =>
  none
def r03_Count (x : Int × Unit) : Option (Int × Unit) := r03_Count_r x.1
def r03_Count_sm : Sum := ⟨(.cons (.int .u32) .nil), (.cons (.d cI) .nil), r03_Count⟩
def r03_Count_L0 : LoopSum := { hc := ⟨[], [0, 3, 4], [], [], [], [], 48⟩, h := ⟨[(0, (.d (.int .u32))), (3, (.d cI)), (4, (.d cI))], [], [], 48⟩, xid := 0, oc := ⟨[], [3], [], [], [], [], 48⟩, o := ⟨[(3, (.d cI))], [], [], 48⟩, rc := ⟨[], [], [], [], [48], [], 48⟩, r := ⟨[], [], [], 48⟩, F := r03_Count_l0 }
def r03_Count_c : Ctx := ⟨[(84, r03_Has_sm)], [], [⟨8, 159, 0, 0, r03_Count_L0⟩]⟩
theorem r03_Count_sem : SemOf Tryz.prog 159 r03_Count_sm := semC (c := r03_Count_c) Tryz.func159 (sc r03_Has_sem an) an (ec (aeC [true, true, false, true, false, false] r03_Count_s0 Tryz.func159) an) 8
def r06_Free_r (a0 : Span) : Option (Int × Unit) :=
 (r03_Count (a0.2.2.1, ())).bind fun y1 =>
 some (y1.1, ())
def r06_Free (x : Span × Unit) : Option (Int × Unit) := r06_Free_r x.1
def r06_Free_sm : Sum := ⟨(.cons cSpan .nil), (.cons (.d cI) .nil), r06_Free⟩
def r06_Free_c : Ctx := ⟨[(159, r03_Count_sm)], [], []⟩
theorem r06_Free_sem : SemOf Tryz.prog 91 r06_Free_sm := semC (c := r06_Free_c) Tryz.func91 (sc r03_Count_sem an) an an 8
abbrev r07_Made_h0 : U := (.cons cI (.cons cI (.cons (.cons .bool .nil) (.cons cHeap (.cons (.cons .bool .nil) (.cons cSpan (.cons (.cons .bool .nil) (.cons (.sl (.int .u64)) (.cons (.sl cSpan) .nil)))))))))
abbrev r07_Made_o0 : U := (.cons (.cons .bool .nil) (.cons cHeap (.cons (.cons .bool .nil) (.cons (.cons .bool .nil) (.cons (.sl (.int .u64)) (.cons (.sl cSpan) .nil))))))
abbrev r07_Made_e0 : U := .nil
def r07_Made_s0r (v1 : Int) (v12 : Int) (c0 : Bool × Unit) (c112 : Heap) (c624 : Bool × Unit) (c1008 : Span) (c1152 : Bool × Unit) (r1136 : List Int) (r1137 : List Span) : Option (SRes r07_Made_h0 r07_Made_o0 r07_Made_e0) :=
 (r04_Words (c1008.2.1, ())).bind fun y7 =>
 bif decide (v12 < y7.1) then
  bif decide (0 ≤ (wi64 (v1 + v12))) then
   bif decide ((wi64 (v1 + v12)) < (r1136.length : Int)) then
    some (.next (v1, wi64 (v12 + 1), c0, c112, c624, c1008, c1152, r1136.set (wi64 (v1 + v12)).toNat 0, r1137, ()))
   else none
  else none
 else
 some (.fin (.out (c0, c112, c624, c1152, r1136, r1137, ())))
def r07_Made_s0 (x : r07_Made_h0.T) : Option (SRes r07_Made_h0 r07_Made_o0 r07_Made_e0) := r07_Made_s0r x.1 x.2.1 x.2.2.1 x.2.2.2.1 x.2.2.2.2.1 x.2.2.2.2.2.1 x.2.2.2.2.2.2.1 x.2.2.2.2.2.2.2.1 x.2.2.2.2.2.2.2.2.1
def r07_Made_l0 (x : r07_Made_h0.T) : Option (LRes r07_Made_o0 r07_Made_e0) := iterL r07_Made_s0 9223372036854775808 x
abbrev r07_Made_h1 : U := (.cons (.sl (.cons cI cVal)) (.cons cI (.cons (.cons .bool .nil) (.cons cHeap .nil))))
abbrev r07_Made_o1 : U := (.cons (.cons .bool .nil) (.cons cHeap .nil))
abbrev r07_Made_e1 : U := .nil
def r07_Made_s1r (v1 : List (Int × Val)) (v6 : Int) (c0 : Bool × Unit) (c112 : Heap) : Option (SRes r07_Made_h1 r07_Made_o1 r07_Made_e1) :=
 bif decide (v6 < (v1.length : Int)) then
  bif decide (0 ≤ v6) then
   bif decide (v6 < (v1.length : Int)) then
    bif (v1.getD v6.toNat (0, 0, 0, ())).1 == 0 then
     (r07_Open (c112, (v1.getD v6.toNat (0, 0, 0, ())).2.1, (v1.getD v6.toNat (0, 0, 0, ())).2.2.1, ())).bind fun y1 =>
     some (.next (v1, wi64 (v6 + 1), c0, y1.1, ()))
    else
    bif (v1.getD v6.toNat (0, 0, 0, ())).1 == 1 then
     (r07_Lay (c112, (v1.getD v6.toNat (0, 0, 0, ())).2.1, (v1.getD v6.toNat (0, 0, 0, ())).2.2.1, ())).bind fun y2 =>
     some (.next (v1, wi64 (v6 + 1), c0, y2.1, ()))
    else
    bif (v1.getD v6.toNat (0, 0, 0, ())).1 == 2 then
     (r07_Lay (c112, (v1.getD v6.toNat (0, 0, 0, ())).2.1, (v1.getD v6.toNat (0, 0, 0, ())).2.2.1, ())).bind fun y3 =>
     some (.next (v1, wi64 (v6 + 1), c0, y3.1, ()))
    else
    bif (v1.getD v6.toNat (0, 0, 0, ())).1 == 3 then
     (r07_Find (c112, (v1.getD v6.toNat (0, 0, 0, ())).2.1, ())).bind fun y4 =>
     bif !y4.2.2.1 then
      some (.next (v1, wi64 (v6 + 1), c0, c112, ()))
     else
     bif decide (0 ≤ y4.1) then
      bif decide (y4.1 < (c112.2.1.length : Int)) then
       (r06_Give (c112.2.1.getD y4.1.toNat (0, 0, 0, ()), y4.2.1, ())).bind fun y5 =>
       bif !y5.2.1 then
        some (.next (v1, wi64 (v6 + 1), c0, c112, ()))
       else
       (r07_with (c112, y4.1, y5.1, ())).bind fun y6 =>
       (r07_Made_l0 ((v1.getD v6.toNat (0, 0, 0, ())).2.1, 0, c0, c112, (false, ()), y5.1, y6.1.2.2, y6.1.1, y6.1.2.1, ())).bind fun s8 => match s8 with
       | .out s8 =>
        some (.next (v1, wi64 (v6 + 1), s8.1, (s8.2.2.2.2.1, s8.2.2.2.2.2.1, s8.2.2.2.1), ()))
       | .ret s8 =>
        none
      else none
     else none
    else
    bif (v1.getD v6.toNat (0, 0, 0, ())).1 == 4 then
     bif decide ((v1.getD v6.toNat (0, 0, 0, ())).2.1 < 0) then
      some (.next (v1, wi64 (v6 + 1), c0, c112, ()))
     else
     bif decide ((v1.getD v6.toNat (0, 0, 0, ())).2.1 ≥ (c112.2.1.length : Int)) then
      some (.next (v1, wi64 (v6 + 1), c0, c112, ()))
     else
     bif decide (0 ≤ (v1.getD v6.toNat (0, 0, 0, ())).2.1) then
      bif decide ((v1.getD v6.toNat (0, 0, 0, ())).2.1 < (c112.2.1.length : Int)) then
       bif (c112.2.1.getD (v1.getD v6.toNat (0, 0, 0, ())).2.1.toNat (0, 0, 0, ())).1 == 0 then
        some (.next (v1, wi64 (v6 + 1), c0, c112, ()))
       else
       bif decide (0 ≤ (v1.getD v6.toNat (0, 0, 0, ())).2.1) then
        bif decide ((v1.getD v6.toNat (0, 0, 0, ())).2.1 < (c112.2.1.length : Int)) then
         (r06_Free (c112.2.1.getD (v1.getD v6.toNat (0, 0, 0, ())).2.1.toNat (0, 0, 0, ()), ())).bind fun y9 =>
         bif decide (0 ≤ (v1.getD v6.toNat (0, 0, 0, ())).2.1) then
          bif decide ((v1.getD v6.toNat (0, 0, 0, ())).2.1 < (c112.2.1.length : Int)) then
           (r04_Blocks ((c112.2.1.getD (v1.getD v6.toNat (0, 0, 0, ())).2.1.toNat (0, 0, 0, ())).2.1, ())).bind fun y10 =>
           bif y9.1 != y10.1 then
            some (.next (v1, wi64 (v6 + 1), c0, c112, ()))
           else
           (r07_with (c112, (v1.getD v6.toNat (0, 0, 0, ())).2.1, (0, 0, 0, ()), ())).bind fun y11 =>
           some (.next (v1, wi64 (v6 + 1), c0, (y11.1.1, y11.1.2.1, y11.1.2.2), ()))
          else none
         else none
        else none
       else none
      else none
     else none
    else
    some (.next (v1, wi64 (v6 + 1), c0, (c112.1, c112.2.1, !c112.2.2.1, c112.2.2.2), ()))
   else none
  else none
 else
 some (.fin (.out (c0, c112, ())))
def r07_Made_s1 (x : r07_Made_h1.T) : Option (SRes r07_Made_h1 r07_Made_o1 r07_Made_e1) := r07_Made_s1r x.1 x.2.1 x.2.2.1 x.2.2.2.1
def r07_Made_l1 (x : r07_Made_h1.T) : Option (LRes r07_Made_o1 r07_Made_e1) := iterL r07_Made_s1 9223372036854775808 x
def r07_Made_r (a0 : Int) (a1 : List (Int × Val)) : Option (Heap × Unit) :=
 bif (wi64 (32 * a0)) == (wi64 (32 * a0)) then
  bif decide (0 ≤ (wi64 (32 * a0))) then
   bif decide ((wi64 (32 * a0)).toNat * 8 ≤ 140737488355328) then
    bif a0 == a0 then
     bif decide (0 ≤ a0) then
      bif decide (a0.toNat * 24 ≤ 140737488355328) then
       (r07_Made_l1 (a1, 0, (false, ()), (List.replicate (wi64 (32 * a0)).toNat (0 : Int), List.replicate a0.toNat ((0, 0, 0, ()) : Span), false, ()), ())).bind fun s12 => match s12 with
       | .out s12 =>
        some (s12.2.1, ())
       | .ret s12 =>
        none
      else none
     else none
    else none
   else none
  else none
 else none
def r07_Made (x : Int × (List (Int × Val)) × Unit) : Option (Heap × Unit) := r07_Made_r x.1 x.2.1
def r07_Made_sm : Sum := ⟨(.cons cI (.cons (.sl (.cons cI cVal)) .nil)), (.cons (.d cHeap) .nil), r07_Made⟩
def r07_Made_L0 : LoopSum := { hc := ⟨[], [1, 4, 9, 11, 12], [], [], [0, 112, 624, 1008, 1152], [1136, 1137], 1200⟩, h := ⟨[(1, (.d cI)), (4, (.pvar 624 [])), (9, (.pvar 1008 [])), (11, (.pvar 1152 [])), (12, (.d cI))], [(0, (.cons .nilsl (.cons .nilsl (.d (.cons .bool .nil))))), (112, (.d cHeap)), (624, (.cons .nilsl (.cons .nilsl (.d (.cons .bool .nil))))), (1008, (.d cSpan)), (1152, (.cons (.row 1136) (.cons (.row 1137) (.d (.cons .bool .nil)))))], [(1136, (.int .u64), true), (1137, cSpan, true)], 1200⟩, xid := 0, oc := ⟨[], [4, 11], [], [], [0, 112, 624, 1152], [1136, 1137], 1200⟩, o := ⟨[(4, (.pvar 624 [])), (11, (.pvar 1152 []))], [(0, (.cons .nilsl (.cons .nilsl (.d (.cons .bool .nil))))), (112, (.d cHeap)), (624, (.cons .nilsl (.cons .nilsl (.d (.cons .bool .nil))))), (1152, (.cons (.row 1136) (.cons (.row 1137) (.d (.cons .bool .nil)))))], [(1136, (.int .u64), true), (1137, cSpan, true)], 1200⟩, rc := ⟨[], [], [], [], [1200], [], 1200⟩, r := ⟨[], [], [], 1200⟩, F := r07_Made_l0 }
def r07_Made_L1 : LoopSum := { hc := ⟨[(.key 112 [], cHeap)], [1, 4, 5, 6], [], [], [0, 112], [], 160⟩, h := ⟨[(1, (.d (.sl (.cons cI cVal)))), (4, (.pvar 0 [])), (5, (.pvar 112 [])), (6, (.d cI))], [(0, (.cons .nilsl (.cons .nilsl (.d (.cons .bool .nil))))), (112, (.d cHeap))], [], 160⟩, xid := 0, oc := ⟨[], [4, 5], [], [], [0, 112], [], 160⟩, o := ⟨[(4, (.pvar 0 [])), (5, (.pvar 112 []))], [(0, (.cons .nilsl (.cons .nilsl (.d (.cons .bool .nil))))), (112, (.d cHeap))], [], 160⟩, rc := ⟨[], [], [], [], [160], [], 160⟩, r := ⟨[], [], [], 160⟩, F := r07_Made_l1 }
def r07_Made_c : Ctx := ⟨[(82, r04_Words_sm), (83, r04_Blocks_sm), (91, r06_Free_sm), (115, r07_Open_sm), (116, r07_Lay_sm), (141, r07_Find_sm), (191, r07_with_sm), (236, r06_Give_sm)], [(169, Tryz.f169), (170, Tryz.f170)], [⟨7, 169, 608, 0, r07_Made_L0⟩, ⟨8, 94, 0, 0, r07_Made_L1⟩]⟩
theorem r07_Made_sem : SemOf Tryz.prog 94 r07_Made_sm := semC (c := r07_Made_c) Tryz.func94 (sc r04_Words_sem (sc r04_Blocks_sem (sc r06_Free_sem (sc r07_Open_sem (sc r07_Lay_sem (sc r07_Find_sem (sc r07_with_sem (sc r06_Give_sem an)))))))) (fc (flC Tryz.func169) (fc (flC Tryz.func170) an)) (ec (aeC [true, true, true, true, true, true, false, true, false, false] r07_Made_s0 Tryz.func169) (ec (aeC [true, true, false, true, false, false] r07_Made_s1 Tryz.func94) an)) 8
def w21_small_r  : Option (Wrld × Unit) :=
 (r07_Made (1, [], ())).bind fun y1 =>
 some (((1, 1, 2, 1, 0, ()), y1.1, [([], 0, (0, 0, 0, 0, ()), 0, (0, 0, ()), ([(-1), (-1), (-1), (-1)] : List Int), ())], ((0, [], ()), [], [], 0, 0, 0, false, ()), 0, false, 0, [], ()), ())
def w21_small (x : Unit) : Option (Wrld × Unit) := w21_small_r 
def w21_small_sm : Sum := ⟨.nil, (.cons (.cons (.cons (.d cI) (.cons (.d cI) (.cons (.d cI) (.cons (.d cI) (.cons (.d cI) .nil))))) (.cons (.d cHeap) (.cons (.own cMut) (.cons (.cons (.cons (.d cI) (.cons (.own cI) .nil)) (.cons (.own cGrey) (.cons (.own cVal) (.cons (.d cI) (.cons (.d cI) (.cons (.d cI) (.cons (.d .bool) .nil))))))) (.cons (.d cI) (.cons (.d .bool) (.cons (.d cI) (.cons (.own cRep) .nil)))))))) .nil), w21_small⟩
def w21_small_c : Ctx := ⟨[(94, r07_Made_sm)], [], []⟩
theorem w21_small_sem : SemOf Tryz.prog 32 w21_small_sm := semC (c := w21_small_c) Tryz.func32 (sc r07_Made_sem an) an an 8
abbrev r01_Same_h0 : U := (.cons (.sl cVal) (.cons (.sl cVal) (.cons cI .nil)))
abbrev r01_Same_o0 : U := .nil
abbrev r01_Same_e0 : U := (.cons .bool .nil)
def r01_Same_s0r (v0 : List Val) (v1 : List Val) (v5 : Int) : Option (SRes r01_Same_h0 r01_Same_o0 r01_Same_e0) :=
 bif decide (v5 < (v0.length : Int)) then
  bif decide (0 ≤ v5) then
   bif decide (v5 < (v0.length : Int)) then
    bif decide (0 ≤ v5) then
     bif decide (v5 < (v1.length : Int)) then
      bif !(((v0.getD v5.toNat (0, 0, ())).1 == (v1.getD v5.toNat (0, 0, ())).1) && (((v0.getD v5.toNat (0, 0, ())).2.1 == (v1.getD v5.toNat (0, 0, ())).2.1) && true)) then
       some (.fin (.ret (false, ())))
      else
      some (.next (v0, v1, wi64 (v5 + 1), ()))
     else none
    else none
   else none
  else none
 else
 some (.fin (.out ()))
def r01_Same_s0 (x : r01_Same_h0.T) : Option (SRes r01_Same_h0 r01_Same_o0 r01_Same_e0) := r01_Same_s0r x.1 x.2.1 x.2.2.1
def r01_Same_l0 (x : r01_Same_h0.T) : Option (LRes r01_Same_o0 r01_Same_e0) := iterL r01_Same_s0 9223372036854775808 x
def r01_Same_r (a0 : List Val) (a1 : List Val) : Option (Bool × Unit) :=
 bif (a0.length : Int) != (a1.length : Int) then
  some (false, ())
 else
 (r01_Same_l0 (a0, a1, 0, ())).bind fun s1 => match s1 with
 | .out s1 =>
  some (true, ())
 | .ret s1 =>
  some (s1.1, ())
def r01_Same (x : (List Val) × (List Val) × Unit) : Option (Bool × Unit) := r01_Same_r x.1 x.2.1
def r01_Same_sm : Sum := ⟨(.cons (.sl cVal) (.cons (.sl cVal) .nil)), (.cons (.d .bool) .nil), r01_Same⟩
def r01_Same_L0 : LoopSum := { hc := ⟨[], [0, 1, 5], [], [], [], [], 112⟩, h := ⟨[(0, (.d (.sl cVal))), (1, (.d (.sl cVal))), (5, (.d cI))], [], [], 112⟩, xid := 0, oc := ⟨[], [], [], [], [], [], 112⟩, o := ⟨[], [], [], 112⟩, rc := ⟨[], [4], [], [], [], [], 112⟩, r := ⟨[(4, (.d .bool))], [], [], 112⟩, F := r01_Same_l0 }
def r01_Same_c : Ctx := ⟨[], [], [⟨8, 33, 0, 0, r01_Same_L0⟩]⟩
theorem r01_Same_sem : SemOf Tryz.prog 33 r01_Same_sm := semC (c := r01_Same_c) Tryz.func33 an an (ec (aeC [true, true, false, true, false, false] r01_Same_s0 Tryz.func33) an) 8
def w21_awake_r  : Option (Bool × Unit) :=
 (w21_small ()).bind fun y1 =>
 (mut_Turn (((y1.1.1.1, y1.1.1.2.1, y1.1.1.2.2.1, y1.1.1.2.2.2.1, y1.1.1.2.2.2.2.1, ()), y1.1.2.1, y1.1.2.2.1, ((y1.1.2.2.2.1.1.1, y1.1.2.2.2.1.1.2.1, ()), y1.1.2.2.2.1.2.1, y1.1.2.2.2.1.2.2.1, y1.1.2.2.2.1.2.2.2.1, y1.1.2.2.2.1.2.2.2.2.1, y1.1.2.2.2.1.2.2.2.2.2.1, y1.1.2.2.2.1.2.2.2.2.2.2.1, ()), y1.1.2.2.2.2.1, y1.1.2.2.2.2.2.1, y1.1.2.2.2.2.2.2.1, y1.1.2.2.2.2.2.2.2.1, ()), 0, (0, 1, 0, 0, ()), ())).bind fun y2 =>
 bif (y2.1.2.2.1.length : Int) != 1 then
  some (false, ())
 else
 bif decide (0 < (y2.1.2.2.1.length : Int)) then
  bif (y2.1.2.2.1.getD 0 ([], 0, (0, 0, 0, 0, ()), 0, (0, 0, ()), List.replicate 4 0, ())).2.1 != 1 then
   some (false, ())
  else
  (mut_Turn ((y2.1.1, y2.1.2.1, y2.1.2.2.1, y2.1.2.2.2), 0, (0, 0, 0, 0, ()), ())).bind fun y3 =>
  bif (y3.1.2.2.1.length : Int) != 1 then
   some (false, ())
  else
  bif decide (0 < (y3.1.2.2.1.length : Int)) then
   bif (y3.1.2.2.1.getD 0 ([], 0, (0, 0, 0, 0, ()), 0, (0, 0, ()), List.replicate 4 0, ())).2.1 != 2 then
    some (false, ())
   else
   (mut_Turn ((y3.1.1, y3.1.2.1, y3.1.2.2.1, y3.1.2.2.2), 0, (0, 0, 0, 0, ()), ())).bind fun y4 =>
   (mut_Turn (((y1.1.1.1, y1.1.1.2.1, y1.1.1.2.2.1, y1.1.1.2.2.2.1, y1.1.1.2.2.2.2.1, ()), y1.1.2.1, y1.1.2.2.1, ((y1.1.2.2.2.1.1.1, y1.1.2.2.2.1.1.2.1, ()), y1.1.2.2.2.1.2.1, y1.1.2.2.2.1.2.2.1, y1.1.2.2.2.1.2.2.2.1, y1.1.2.2.2.1.2.2.2.2.1, y1.1.2.2.2.1.2.2.2.2.2.1, y1.1.2.2.2.1.2.2.2.2.2.2.1, ()), y1.1.2.2.2.2.1, y1.1.2.2.2.2.2.1, y1.1.2.2.2.2.2.2.1, y1.1.2.2.2.2.2.2.2.1, ()), 0, (5, 0, 0, 0, ()), ())).bind fun y5 =>
   (mut_Turn (((y1.1.1.1, y1.1.1.2.1, y1.1.1.2.2.1, y1.1.1.2.2.2.1, y1.1.1.2.2.2.2.1, ()), y1.1.2.1, y1.1.2.2.1, ((y1.1.2.2.2.1.1.1, y1.1.2.2.2.1.1.2.1, ()), y1.1.2.2.2.1.2.1, y1.1.2.2.2.1.2.2.1, y1.1.2.2.2.1.2.2.2.1, y1.1.2.2.2.1.2.2.2.2.1, y1.1.2.2.2.1.2.2.2.2.2.1, y1.1.2.2.2.1.2.2.2.2.2.2.1, ()), y1.1.2.2.2.2.1, y1.1.2.2.2.2.2.1, y1.1.2.2.2.2.2.2.1, y1.1.2.2.2.2.2.2.2.1, ()), 0, (6, 0, 0, 0, ()), ())).bind fun y6 =>
   bif (y2.2.1.1 == 0) && ((y2.2.1.2.1 == 1) && ((y2.2.1.2.2.1 == 0) && (((y2.2.1.2.2.2.1.1 == 0) && ((y2.2.1.2.2.2.1.2.1 == 0) && true)) && true))) then
    bif (y3.2.1.1 == 0) && ((y3.2.1.2.1 == 1) && ((y3.2.1.2.2.1 == 0) && (((y3.2.1.2.2.2.1.1 == 0) && ((y3.2.1.2.2.2.1.2.1 == 0) && true)) && true))) then
     bif (y4.2.1.1 == 0) && ((y4.2.1.2.1 == 2) && ((y4.2.1.2.2.1 == 0) && (((y4.2.1.2.2.2.1.1 == 2) && ((y4.2.1.2.2.2.1.2.1 == 0) && true)) && true))) then
      bif (y4.1.2.2.1.length : Int) == 1 then
       bif decide (0 < (y4.1.2.2.1.length : Int)) then
        (r01_Same ((y4.1.2.2.1.getD 0 ([], 0, (0, 0, 0, 0, ()), 0, (0, 0, ()), List.replicate 4 0, ())).1, [(2, 0, ())], ())).bind fun y7 =>
        bif y7.1 then
         bif decide (0 < (y4.1.2.2.1.length : Int)) then
          bif (y4.1.2.2.1.getD 0 ([], 0, (0, 0, 0, 0, ()), 0, (0, 0, ()), List.replicate 4 0, ())).2.1 == 0 then
           bif decide (0 < (y4.1.2.2.1.length : Int)) then
            bif ((y4.1.2.2.1.getD 0 ([], 0, (0, 0, 0, 0, ()), 0, (0, 0, ()), List.replicate 4 0, ())).2.2.2.2.2.1.getD 0 0) == 0 then
             bif (y5.2.1.1 == 0) && ((y5.2.1.2.1 == 2) && ((y5.2.1.2.2.1 == 3) && (((y5.2.1.2.2.2.1.1 == 0) && ((y5.2.1.2.2.2.1.2.1 == 0) && true)) && true))) then
              bif y6.1.2.2.2.2.2.1 then
               some (y6.2.1.2.2.1 == 0, ())
              else
              some (false, ())
             else
             some (false, ())
            else
            some (false, ())
           else none
          else
          some (false, ())
         else none
        else
        some (false, ())
       else none
      else
      some (false, ())
     else
     some (false, ())
    else
    some (false, ())
   else
   some (false, ())
  else none
 else none
def w21_awake (x : Unit) : Option (Bool × Unit) := w21_awake_r 
def w21_awake_sm : Sum := ⟨.nil, (.cons (.d .bool) .nil), w21_awake⟩
def w21_awake_c : Ctx := ⟨[(13, mut_Turn_sm), (32, w21_small_sm), (33, r01_Same_sm)], [], []⟩
theorem w21_awake_sem : SemOf Tryz.prog 10 w21_awake_sm := semC (c := w21_awake_c) Tryz.func10 (sc mut_Turn_sem (sc w21_small_sem (sc r01_Same_sem an))) an an 8
abbrev r18_Few_h0 : U := (.cons (.sl cMut) (.cons cI .nil))
abbrev r18_Few_o0 : U := (.cons (.sl cMut) .nil)
abbrev r18_Few_e0 : U := (.cons .bool .nil)
def r18_Few_s0r (v0 : List Mut) (v3 : Int) : Option (SRes r18_Few_h0 r18_Few_o0 r18_Few_e0) :=
 bif decide (v3 < (v0.length : Int)) then
  bif decide (v3 < 20) then
   bif decide (0 ≤ v3) then
    bif decide (v3 < (v0.length : Int)) then
     bif decide (((v0.getD v3.toNat ([], 0, (0, 0, 0, 0, ()), 0, (0, 0, ()), List.replicate 4 0, ())).1.length : Int) > 20) then
      some (.fin (.ret (false, ())))
     else
     some (.next (v0, wi64 (v3 + 1), ()))
    else none
   else none
  else
  some (.fin (.out (v0, ())))
 else
 some (.fin (.out (v0, ())))
def r18_Few_s0 (x : r18_Few_h0.T) : Option (SRes r18_Few_h0 r18_Few_o0 r18_Few_e0) := r18_Few_s0r x.1 x.2.1
def r18_Few_l0 (x : r18_Few_h0.T) : Option (LRes r18_Few_o0 r18_Few_e0) := iterL r18_Few_s0 9223372036854775808 x
def r18_Few_r (a0 : List Mut) : Option (Bool × Unit) :=
 (r18_Few_l0 (a0, 0, ())).bind fun s1 => match s1 with
 | .out s1 =>
  some (decide ((s1.1.length : Int) ≤ 10), ())
 | .ret s1 =>
  some (s1.1, ())
def r18_Few (x : (List Mut) × Unit) : Option (Bool × Unit) := r18_Few_r x.1
def r18_Few_sm : Sum := ⟨(.cons (.sl cMut) .nil), (.cons (.d .bool) .nil), r18_Few⟩
def r18_Few_L0 : LoopSum := { hc := ⟨[], [0, 3], [], [], [], [], 32⟩, h := ⟨[(0, (.d (.sl cMut))), (3, (.d cI))], [], [], 32⟩, xid := 0, oc := ⟨[], [0], [], [], [], [], 32⟩, o := ⟨[(0, (.d (.sl cMut)))], [], [], 32⟩, rc := ⟨[], [2], [], [], [], [], 32⟩, r := ⟨[(2, (.d .bool))], [], [], 32⟩, F := r18_Few_l0 }
def r18_Few_c : Ctx := ⟨[], [], [⟨8, 56, 0, 0, r18_Few_L0⟩]⟩
theorem r18_Few_sem : SemOf Tryz.prog 56 r18_Few_sm := semC (c := r18_Few_c) Tryz.func56 an an (ec (aeC [true, false, true, false, false] r18_Few_s0 Tryz.func56) an) 8
abbrev r17_Few_h0 : U := (.cons cI (.cons cMarker .nil))
abbrev r17_Few_o0 : U := (.cons cMarker .nil)
abbrev r17_Few_e0 : U := (.cons .bool .nil)
def r17_Few_s0r (v3 : Int) (c0 : Marker) : Option (SRes r17_Few_h0 r17_Few_o0 r17_Few_e0) :=
 bif decide (v3 < (c0.2.1.length : Int)) then
  bif decide (v3 < 20) then
   bif decide (0 ≤ v3) then
    bif decide (v3 < (c0.2.1.length : Int)) then
     bif decide (((c0.2.1.getD v3.toNat (0, [], ())).2.1.length : Int) > 20) then
      some (.fin (.ret (false, ())))
     else
     some (.next (wi64 (v3 + 1), c0, ()))
    else none
   else none
  else
  some (.fin (.out (c0, ())))
 else
 some (.fin (.out (c0, ())))
def r17_Few_s0 (x : r17_Few_h0.T) : Option (SRes r17_Few_h0 r17_Few_o0 r17_Few_e0) := r17_Few_s0r x.1 x.2.1
def r17_Few_l0 (x : r17_Few_h0.T) : Option (LRes r17_Few_o0 r17_Few_e0) := iterL r17_Few_s0 9223372036854775808 x
def r17_Few_r (a0 : Marker) : Option (Bool × Unit) :=
 (r17_Few_l0 (0, a0, ())).bind fun s1 => match s1 with
 | .out s1 =>
  bif decide ((s1.1.1.2.1.length : Int) ≤ 20) then
   bif decide ((s1.1.2.1.length : Int) ≤ 10) then
    some (decide ((s1.1.2.2.1.length : Int) ≤ 300), ())
   else
   some (false, ())
  else
  some (false, ())
 | .ret s1 =>
  some (s1.1, ())
def r17_Few (x : Marker × Unit) : Option (Bool × Unit) := r17_Few_r x.1
def r17_Few_sm : Sum := ⟨(.cons cMarker .nil), (.cons (.d .bool) .nil), r17_Few⟩
def r17_Few_L0 : LoopSum := { hc := ⟨[], [1, 3], [], [], [0], [], 48⟩, h := ⟨[(1, (.pvar 0 [])), (3, (.d cI))], [(0, (.d cMarker))], [], 48⟩, xid := 0, oc := ⟨[], [1], [], [], [0], [], 48⟩, o := ⟨[(1, (.pvar 0 []))], [(0, (.d cMarker))], [], 48⟩, rc := ⟨[], [2], [], [], [], [], 48⟩, r := ⟨[(2, (.d .bool))], [], [], 48⟩, F := r17_Few_l0 }
def r17_Few_c : Ctx := ⟨[], [], [⟨8, 57, 0, 0, r17_Few_L0⟩]⟩
theorem r17_Few_sem : SemOf Tryz.prog 57 r17_Few_sm := semC (c := r17_Few_c) Tryz.func57 an an (ec (aeC [true, false, true, false, false] r17_Few_s0 Tryz.func57) an) 8
end
end Go.Proofs.YtkjpakaidjpjgaaGreatDoor.Dfn
