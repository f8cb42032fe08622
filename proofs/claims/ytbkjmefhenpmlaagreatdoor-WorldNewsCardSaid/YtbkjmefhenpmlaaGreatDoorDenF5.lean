/- What functions come to. Printed by a program of this session. -/
import Derived.Test.YtbkjmefhenpmlaaGreatDoorDenF4
namespace Go.Proofs.YtbkjmefhenpmlaaGreatDoor.Den
open Go
set_option maxRecDepth 100000
set_option linter.unusedVariables false
noncomputable section
def r02_May_r (a0 : Hdr) : Option (Bool × Unit) :=
 bif !a0.1 then
  bif !a0.2.1 then
   bif a0.2.2.1 == 0 then
    some (a0.2.2.2.1 == 0, ())
   else
   some (false, ())
  else
  some (false, ())
 else
 bif decide (a0.2.2.1 < 0) then
  some (false, ())
 else
 bif decide (a0.2.2.1 > 3) then
  some (false, ())
 else
 bif decide (a0.2.2.2.1 < 0) then
  some (false, ())
 else
 bif decide (0 ≤ a0.2.2.1) then
  bif decide (a0.2.2.1 < 4) then
   some (decide (a0.2.2.2.1 ≤ ([1, 3, 7, 15].getD a0.2.2.1.toNat 0)), ())
  else none
 else none
def r02_May (x : Hdr × Unit) : Option (Bool × Unit) := r02_May_r x.1
def r02_May_sm : Sum := ⟨(.cons cHdr .nil), (.cons (.d .bool) .nil), r02_May⟩
def r02_May_c : Ctx := ⟨[], [], []⟩
theorem r02_May_sem : SemOf Tryz.prog 134 r02_May_sm := semC (c := r02_May_c) Tryz.func134 an an an 8
def r02_Put_r (a0 : Hdr) : Option (Int × Unit) :=
 bif !a0.1 then
  some (0, ())
 else
 bif a0.2.1 then
  some (wu64 (wi64 ((wi64 ((wi64 (128 + (wi64 (16 * a0.2.2.1)))) + a0.2.2.2.1)) + 64)), ())
 else
 some (wu64 (wi64 ((wi64 (128 + (wi64 (16 * a0.2.2.1)))) + a0.2.2.2.1)), ())
def r02_Put (x : Hdr × Unit) : Option (Int × Unit) := r02_Put_r x.1
def r02_Put_sm : Sum := ⟨(.cons cHdr .nil), (.cons (.d (.int .u64)) .nil), r02_Put⟩
def r02_Put_c : Ctx := ⟨[], [], []⟩
theorem r02_Put_sem : SemOf Tryz.prog 135 r02_Put_sm := semC (c := r02_Put_c) Tryz.func135 an an an 8
abbrev r02_Get_h0 : U := (.cons (.int .u64) (.cons cI (.cons cI (.cons cI (.cons cHdr .nil)))))
abbrev r02_Get_o0 : U := (.cons (.int .u64) (.cons cI (.cons cI (.cons cHdr .nil))))
abbrev r02_Get_e0 : U := (.cons .bool (.cons cHdr .nil))
def r02_Get_s0r (v0 : Int) (v4 : Int) (v5 : Int) (v6 : Int) (c0 : Hdr) : Option (SRes r02_Get_h0 r02_Get_o0 r02_Get_e0) :=
 bif decide (v6 < 2) then
  (r02_May ((true, v6 == 1, v4, v5, ()), ())).bind fun y1 =>
  bif y1.1 then
   (r02_Put ((true, v6 == 1, v4, v5, ()), ())).bind fun y2 =>
   bif y2.1 == v0 then
    some (.fin (.ret (true, (true, v6 == 1, v4, v5, ()), ())))
   else
   some (.next (v0, v4, v5, wi64 (v6 + 1), c0, ()))
  else
  some (.next (v0, v4, v5, wi64 (v6 + 1), c0, ()))
 else
 some (.fin (.out (v0, v4, v5, c0, ())))
def r02_Get_s0 (x : r02_Get_h0.T) : Option (SRes r02_Get_h0 r02_Get_o0 r02_Get_e0) := r02_Get_s0r x.1 x.2.1 x.2.2.1 x.2.2.2.1 x.2.2.2.2.1
def r02_Get_l0 (x : r02_Get_h0.T) : Option (LRes r02_Get_o0 r02_Get_e0) := iterL r02_Get_s0 9223372036854775808 x
abbrev r02_Get_h1 : U := (.cons (.int .u64) (.cons cI (.cons cI (.cons cHdr .nil))))
abbrev r02_Get_o1 : U := (.cons (.int .u64) (.cons cI (.cons cHdr .nil)))
abbrev r02_Get_e1 : U := (.cons .bool (.cons cHdr .nil))
def r02_Get_s1r (v0 : Int) (v4 : Int) (v5 : Int) (c0 : Hdr) : Option (SRes r02_Get_h1 r02_Get_o1 r02_Get_e1) :=
 bif decide (v5 < 16) then
  (r02_Get_l0 (v0, v4, v5, 0, c0, ())).bind fun s3 => match s3 with
  | .out s3 =>
   some (.next (s3.1, s3.2.1, wi64 (s3.2.2.1 + 1), s3.2.2.2.1, ()))
  | .ret s3 =>
   some (.fin (.ret (s3.1, s3.2.1, ())))
 else
 some (.fin (.out (v0, v4, c0, ())))
def r02_Get_s1 (x : r02_Get_h1.T) : Option (SRes r02_Get_h1 r02_Get_o1 r02_Get_e1) := r02_Get_s1r x.1 x.2.1 x.2.2.1 x.2.2.2.1
def r02_Get_l1 (x : r02_Get_h1.T) : Option (LRes r02_Get_o1 r02_Get_e1) := iterL r02_Get_s1 9223372036854775808 x
abbrev r02_Get_h2 : U := (.cons (.int .u64) (.cons cI (.cons cHdr .nil)))
abbrev r02_Get_o2 : U := (.cons cHdr .nil)
abbrev r02_Get_e2 : U := (.cons .bool (.cons cHdr .nil))
def r02_Get_s2r (v0 : Int) (v4 : Int) (c0 : Hdr) : Option (SRes r02_Get_h2 r02_Get_o2 r02_Get_e2) :=
 bif decide (v4 < 4) then
  (r02_Get_l1 (v0, v4, 0, c0, ())).bind fun s4 => match s4 with
  | .out s4 =>
   some (.next (s4.1, wi64 (s4.2.1 + 1), s4.2.2.1, ()))
  | .ret s4 =>
   some (.fin (.ret (s4.1, s4.2.1, ())))
 else
 some (.fin (.out (c0, ())))
def r02_Get_s2 (x : r02_Get_h2.T) : Option (SRes r02_Get_h2 r02_Get_o2 r02_Get_e2) := r02_Get_s2r x.1 x.2.1 x.2.2.1
def r02_Get_l2 (x : r02_Get_h2.T) : Option (LRes r02_Get_o2 r02_Get_e2) := iterL r02_Get_s2 9223372036854775808 x
def r02_Get_r (a0 : Int) : Option (Hdr × Bool × Unit) :=
 bif a0 == 0 then
  some ((false, false, 0, 0, ()), true, ())
 else
 (r02_Get_l2 (a0, 0, (false, false, 0, 0, ()), ())).bind fun s5 => match s5 with
 | .out s5 =>
  some ((false, false, 0, 0, ()), false, ())
 | .ret s5 =>
  some (s5.2.1, s5.1, ())
def r02_Get (x : Int × Unit) : Option (Hdr × Bool × Unit) := r02_Get_r x.1
def r02_Get_sm : Sum := ⟨(.cons (.int .u64) .nil), (.cons (.d cHdr) (.cons (.d .bool) .nil)), r02_Get⟩
def r02_Get_L0 : LoopSum := { hc := ⟨[], [0, 2, 4, 5, 6], [], [], [0], [], 176⟩, h := ⟨[(0, (.d (.int .u64))), (2, (.pvar 0 [])), (4, (.d cI)), (5, (.d cI)), (6, (.d cI))], [(0, (.d cHdr))], [], 176⟩, xid := 4, oc := ⟨[], [0, 2, 4, 5], [], [], [0], [], 176⟩, o := ⟨[(0, (.d (.int .u64))), (2, (.pvar 0 [])), (4, (.d cI)), (5, (.d cI))], [(0, (.d cHdr))], [], 176⟩, rc := ⟨[], [2, 3], [], [], [0], [], 176⟩, r := ⟨[(2, (.pvar 0 [])), (3, (.d .bool))], [(0, (.d cHdr))], [], 176⟩, F := r02_Get_l0 }
def r02_Get_L1 : LoopSum := { hc := ⟨[], [0, 2, 4, 5], [], [], [0], [], 128⟩, h := ⟨[(0, (.d (.int .u64))), (2, (.pvar 0 [])), (4, (.d cI)), (5, (.d cI))], [(0, (.d cHdr))], [], 128⟩, xid := 2, oc := ⟨[], [0, 2, 4], [], [], [0], [], 128⟩, o := ⟨[(0, (.d (.int .u64))), (2, (.pvar 0 [])), (4, (.d cI))], [(0, (.d cHdr))], [], 128⟩, rc := ⟨[], [2, 3], [], [], [0], [], 128⟩, r := ⟨[(2, (.pvar 0 [])), (3, (.d .bool))], [(0, (.d cHdr))], [], 128⟩, F := r02_Get_l1 }
def r02_Get_L2 : LoopSum := { hc := ⟨[], [0, 2, 4], [], [], [0], [], 80⟩, h := ⟨[(0, (.d (.int .u64))), (2, (.pvar 0 [])), (4, (.d cI))], [(0, (.d cHdr))], [], 80⟩, xid := 0, oc := ⟨[], [2], [], [], [0], [], 80⟩, o := ⟨[(2, (.pvar 0 []))], [(0, (.d cHdr))], [], 80⟩, rc := ⟨[], [2, 3], [], [], [0], [], 80⟩, r := ⟨[(2, (.pvar 0 [])), (3, (.d .bool))], [(0, (.d cHdr))], [], 80⟩, F := r02_Get_l2 }
def r02_Get_c : Ctx := ⟨[(134, r02_May_sm), (135, r02_Put_sm)], [], [⟨8, 88, 0, 4, r02_Get_L0⟩, ⟨8, 88, 0, 2, r02_Get_L1⟩, ⟨8, 88, 0, 0, r02_Get_L2⟩]⟩
theorem r02_Get_sem : SemOf Tryz.prog 88 r02_Get_sm := semC (c := r02_Get_c) Tryz.func88 (sc r02_May_sem (sc r02_Put_sem an)) an (ec (aeC [true, true, false, true, false, false, true, false, false, true, false, false, true, false, false, true, false, false] r02_Get_s0 Tryz.func88) (ec (aeC [true, true, false, true, false, false, true, false, false, true, false, false] r02_Get_s1 Tryz.func88) (ec (aeC [true, true, false, true, false, false] r02_Get_s2 Tryz.func88) an))) 8
def r08_Get_r (a0 : Heap) (a1 : Int) : Option (Hdr × Bool × Unit) :=
 (r07_Find (a0, a1, ())).bind fun y1 =>
 bif !y1.2.2.1 then
  some ((false, false, 0, 0, ()), false, ())
 else
 bif decide (0 ≤ a1) then
  bif decide (a1 < (a0.1.length : Int)) then
   (r02_Get (a0.1.getD a1.toNat 0, ())).bind fun y2 =>
   bif !y2.2.1 then
    some ((false, false, 0, 0, ()), false, ())
   else
   bif !y2.1.1 then
    some ((false, false, 0, 0, ()), false, ())
   else
   bif decide ((wi64 (a1 + y2.1.2.2.2.1)) ≥ (wi64 ((wi64 (32 * (wi64 (a1.tdiv 32)))) + 32))) then
    some ((false, false, 0, 0, ()), false, ())
   else
   some (y2.1, true, ())
  else none
 else none
def r08_Get (x : Heap × Int × Unit) : Option (Hdr × Bool × Unit) := r08_Get_r x.1 x.2.1
def r08_Get_sm : Sum := ⟨(.cons cHeap (.cons cI .nil)), (.cons (.d cHdr) (.cons (.d .bool) .nil)), r08_Get⟩
def r08_Get_c : Ctx := ⟨[(87, r07_Find_sm), (88, r02_Get_sm)], [], []⟩
theorem r08_Get_sem : SemOf Tryz.prog 50 r08_Get_sm := semC (c := r08_Get_c) Tryz.func50 (sc r07_Find_sem (sc r02_Get_sem an)) an an 8
def r01_Get_r (a0 : Int) : Option (Val × Unit) :=
 bif a0 == 0 then
  some ((0, 0, ()), ())
 else
 bif (a0.tmod 2) == 1 then
  some ((1, wi64 (wu64 (a0.tdiv 2)), ()), ())
 else
 some ((2, wi64 (wu64 ((wu64 (a0.tdiv 2)) - 1)), ()), ())
def r01_Get (x : Int × Unit) : Option (Val × Unit) := r01_Get_r x.1
def r01_Get_sm : Sum := ⟨(.cons (.int .u64) .nil), (.cons (.cons (.d cI) (.cons (.d cI) .nil)) .nil), r01_Get⟩
def r01_Get_c : Ctx := ⟨[], [], []⟩
theorem r01_Get_sem : SemOf Tryz.prog 133 r01_Get_sm := semC (c := r01_Get_c) Tryz.func133 an an an 8
def r08_Field_r (a0 : Heap) (a1 : Int) (a2 : Int) : Option (Val × Int × Unit) :=
 (r08_Get (a0, a1, ())).bind fun y1 =>
 bif !y1.2.1 then
  some ((0, 0, ()), 1, ())
 else
 bif decide (a2 < 0) then
  some ((0, 0, ()), 4, ())
 else
 bif decide (a2 ≥ y1.1.2.2.2.1) then
  some ((0, 0, ()), 4, ())
 else
 bif decide (0 ≤ (wi64 ((wi64 (a1 + 1)) + a2))) then
  bif decide ((wi64 ((wi64 (a1 + 1)) + a2)) < (a0.1.length : Int)) then
   (r01_Get (a0.1.getD (wi64 ((wi64 (a1 + 1)) + a2)).toNat 0, ())).bind fun y2 =>
   some ((y2.1.1, y2.1.2.1, ()), 0, ())
  else none
 else none
def r08_Field (x : Heap × Val) : Option (Val × Int × Unit) := r08_Field_r x.1 x.2.1 x.2.2.1
def r08_Field_sm : Sum := ⟨(.cons cHeap cVal), (.cons (.cons (.d cI) (.cons (.d cI) .nil)) (.cons (.d cI) .nil)), r08_Field⟩
def r08_Field_c : Ctx := ⟨[(50, r08_Get_sm), (133, r01_Get_sm)], [], []⟩
theorem r08_Field_sem : SemOf Tryz.prog 86 r08_Field_sm := semC (c := r08_Field_c) Tryz.func86 (sc r08_Get_sem (sc r01_Get_sem an)) an an 8
abbrev r17_Right_h0 : U := (.cons cI (.cons cHeap (.cons cMarker .nil)))
abbrev r17_Right_o0 : U := (.cons cHeap (.cons cMarker .nil))
abbrev r17_Right_e0 : U := (.cons .bool .nil)
def r17_Right_s0r (v5 : Int) (c0 : Heap) (c16 : Marker) : Option (SRes r17_Right_h0 r17_Right_o0 r17_Right_e0) :=
 bif decide (v5 < (c16.2.1.length : Int)) then
  bif decide (0 ≤ v5) then
   bif decide (v5 < (c16.2.1.length : Int)) then
    (r13_Right (c16.2.1.getD v5.toNat (0, [], ()), ())).bind fun y1 =>
    bif !y1.1 then
     some (.fin (.ret (false, ())))
    else
    some (.next (wi64 (v5 + 1), c0, c16, ()))
   else none
  else none
 else
 some (.fin (.out (c0, c16, ())))
def r17_Right_s0 (x : r17_Right_h0.T) : Option (SRes r17_Right_h0 r17_Right_o0 r17_Right_e0) := r17_Right_s0r x.1 x.2.1 x.2.2.1
def r17_Right_l0 (x : r17_Right_h0.T) : Option (LRes r17_Right_o0 r17_Right_e0) := iterL r17_Right_s0 9223372036854775808 x
def r17_Right_r (a0 : Heap) (a1 : Marker) : Option (Bool × Unit) :=
 (r17_Right_l0 (0, a0, a1, ())).bind fun s2 => match s2 with
 | .out s2 =>
  (r13_Right (s2.2.1.1, ())).bind fun y3 =>
  bif !y3.1 then
   some (false, ())
  else
  bif decide (s2.2.1.2.2.2.2.2.1 < (-1)) then
   some (false, ())
  else
  bif decide (s2.2.1.2.2.2.2.2.1 > (s2.1.1.length : Int)) then
   some (false, ())
  else
  bif s2.2.1.2.2.2.1 == (-1) then
   some (s2.2.1.2.2.2.2.1 == 0, ())
  else
  (r08_Field (s2.1, s2.2.1.2.2.2.1, s2.2.1.2.2.2.2.1, ())).bind fun y4 =>
  some (y4.2.1 == 0, ())
 | .ret s2 =>
  some (s2.1, ())
def r17_Right (x : Heap × Marker × Unit) : Option (Bool × Unit) := r17_Right_r x.1 x.2.1
def r17_Right_sm : Sum := ⟨(.cons cHeap (.cons cMarker .nil)), (.cons (.d .bool) .nil), r17_Right⟩
def r17_Right_L0 : LoopSum := { hc := ⟨[], [2, 3, 5], [], [], [0, 16], [], 64⟩, h := ⟨[(2, (.pvar 0 [])), (3, (.pvar 16 [])), (5, (.d cI))], [(0, (.d cHeap)), (16, (.d cMarker))], [], 64⟩, xid := 0, oc := ⟨[], [2, 3], [], [], [0, 16], [], 64⟩, o := ⟨[(2, (.pvar 0 [])), (3, (.pvar 16 []))], [(0, (.d cHeap)), (16, (.d cMarker))], [], 64⟩, rc := ⟨[], [4], [], [], [], [], 64⟩, r := ⟨[(4, (.d .bool))], [], [], 64⟩, F := r17_Right_l0 }
def r17_Right_c : Ctx := ⟨[(85, r13_Right_sm), (86, r08_Field_sm)], [], [⟨8, 45, 0, 0, r17_Right_L0⟩]⟩
theorem r17_Right_sem : SemOf Tryz.prog 45 r17_Right_sm := semC (c := r17_Right_c) Tryz.func45 (sc r13_Right_sem (sc r08_Field_sem an)) an (ec (aeC [true, false, true, false, false] r17_Right_s0 Tryz.func45) an) 8
abbrev r20_Form_h0 : U := (.cons cI (.cons cWrld .nil))
abbrev r20_Form_o0 : U := (.cons cWrld .nil)
abbrev r20_Form_e0 : U := (.cons .bool .nil)
def r20_Form_s0r (v3 : Int) (c0 : Wrld) : Option (SRes r20_Form_h0 r20_Form_o0 r20_Form_e0) :=
 bif decide (v3 < (c0.2.2.1.length : Int)) then
  bif decide (0 ≤ v3) then
   bif decide (v3 < (c0.2.2.1.length : Int)) then
    bif decide (((c0.2.2.1.getD v3.toNat ([], 0, (0, 0, 0, 0, ()), 0, (0, 0, ()), List.replicate 4 0, ())).1.length : Int) > c0.1.2.2.1) then
     some (.fin (.ret (false, ())))
    else
    some (.next (wi64 (v3 + 1), c0, ()))
   else none
  else none
 else
 some (.fin (.out (c0, ())))
def r20_Form_s0 (x : r20_Form_h0.T) : Option (SRes r20_Form_h0 r20_Form_o0 r20_Form_e0) := r20_Form_s0r x.1 x.2.1
def r20_Form_l0 (x : r20_Form_h0.T) : Option (LRes r20_Form_o0 r20_Form_e0) := iterL r20_Form_s0 9223372036854775808 x
def r20_Form_r (a0 : Wrld) : Option (Bool × Unit) :=
 (r20_May (a0.1, ())).bind fun y1 =>
 bif !y1.1 then
  some (false, ())
 else
 (r07_Form (a0.2.1, ())).bind fun y2 =>
 bif !y2.1 then
  some (false, ())
 else
 bif (a0.2.1.2.1.length : Int) != a0.1.1 then
  some (false, ())
 else
 bif (a0.2.2.1.length : Int) != a0.1.2.1 then
  some (false, ())
 else
 bif decide (a0.2.2.2.2.1 < 0) then
  some (false, ())
 else
 bif decide (a0.2.2.2.2.1 > 2) then
  some (false, ())
 else
 (r20_Form_l0 (0, a0, ())).bind fun s3 => match s3 with
 | .out s3 =>
  (r20_Caches (s3.1, ())).bind fun y4 =>
  (r11_Right (s3.1.2.1, y4.1, ())).bind fun y5 =>
  bif !y5.1 then
   some (false, ())
  else
  bif s3.1.2.2.2.2.1 == 1 then
   (r17_Right (s3.1.2.1, s3.1.2.2.2.1, ())).bind fun y6 =>
   bif y6.1 then
    some ((s3.1.2.2.2.1.2.1.length : Int) == (s3.1.2.2.1.length : Int), ())
   else
   some (false, ())
  else
  some (true, ())
 | .ret s3 =>
  some (s3.1, ())
def r20_Form (x : Wrld × Unit) : Option (Bool × Unit) := r20_Form_r x.1
def r20_Form_sm : Sum := ⟨(.cons cWrld .nil), (.cons (.d .bool) .nil), r20_Form⟩
def r20_Form_L0 : LoopSum := { hc := ⟨[], [1, 3], [], [], [0], [], 672⟩, h := ⟨[(1, (.pvar 0 [])), (3, (.d cI))], [(0, (.d cWrld))], [], 672⟩, xid := 0, oc := ⟨[], [1], [], [], [0], [], 672⟩, o := ⟨[(1, (.pvar 0 []))], [(0, (.d cWrld))], [], 672⟩, rc := ⟨[], [2], [], [], [], [], 672⟩, r := ⟨[(2, (.d .bool))], [], [], 672⟩, F := r20_Form_l0 }
def r20_Form_c : Ctx := ⟨[(12, r20_May_sm), (42, r07_Form_sm), (43, r11_Right_sm), (44, r20_Caches_sm), (45, r17_Right_sm)], [], [⟨8, 22, 0, 0, r20_Form_L0⟩]⟩
theorem r20_Form_sem : SemOf Tryz.prog 22 r20_Form_sm := semC (c := r20_Form_c) Tryz.func22 (sc r20_May_sem (sc r07_Form_sem (sc r11_Right_sem (sc r20_Caches_sem (sc r17_Right_sem an))))) an (ec (aeC [true, true, false, true, false, false] r20_Form_s0 Tryz.func22) an) 8
abbrev r09_nought_h0 : U := (.cons cI (.cons cI (.cons cI (.cons cHeap .nil))))
abbrev r09_nought_o0 : U := .nil
abbrev r09_nought_e0 : U := (.cons .bool .nil)
def r09_nought_s0r (v1 : Int) (v2 : Int) (v7 : Int) (c0 : Heap) : Option (SRes r09_nought_h0 r09_nought_o0 r09_nought_e0) :=
 bif decide (v7 < v2) then
  bif decide (0 ≤ (wi64 (v1 + v7))) then
   bif decide ((wi64 (v1 + v7)) < (c0.1.length : Int)) then
    bif (c0.1.getD (wi64 (v1 + v7)).toNat 0) != 0 then
     some (.fin (.ret (false, ())))
    else
    some (.next (v1, v2, wi64 (v7 + 1), c0, ()))
   else none
  else none
 else
 some (.fin (.out ()))
def r09_nought_s0 (x : r09_nought_h0.T) : Option (SRes r09_nought_h0 r09_nought_o0 r09_nought_e0) := r09_nought_s0r x.1 x.2.1 x.2.2.1 x.2.2.2.1
def r09_nought_l0 (x : r09_nought_h0.T) : Option (LRes r09_nought_o0 r09_nought_e0) := iterL r09_nought_s0 9223372036854775808 x
def r09_nought_r (a0 : Heap) (a1 : Int) (a2 : Int) : Option (Bool × Unit) :=
 (r09_nought_l0 (a1, a2, 0, a0, ())).bind fun s1 => match s1 with
 | .out s1 =>
  some (true, ())
 | .ret s1 =>
  some (s1.1, ())
def r09_nought (x : Heap × Val) : Option (Bool × Unit) := r09_nought_r x.1 x.2.1 x.2.2.1
def r09_nought_sm : Sum := ⟨(.cons cHeap cVal), (.cons (.d .bool) .nil), r09_nought⟩
def r09_nought_L0 : LoopSum := { hc := ⟨[], [1, 2, 3, 7], [], [], [0], [], 48⟩, h := ⟨[(1, (.d cI)), (2, (.d cI)), (3, (.pvar 0 [])), (7, (.d cI))], [(0, (.d cHeap))], [], 48⟩, xid := 0, oc := ⟨[], [], [], [], [], [], 48⟩, o := ⟨[], [], [], 48⟩, rc := ⟨[], [6], [], [], [], [], 48⟩, r := ⟨[(6, (.d .bool))], [], [], 48⟩, F := r09_nought_l0 }
def r09_nought_c : Ctx := ⟨[], [], [⟨8, 46, 0, 0, r09_nought_L0⟩]⟩
theorem r09_nought_sem : SemOf Tryz.prog 46 r09_nought_sm := semC (c := r09_nought_c) Tryz.func46 an an (ec (aeC [true, false, true, false, false] r09_nought_s0 Tryz.func46) an) 8
abbrev r08_List_h0 : U := (.cons cI (.cons cHeap (.cons (.sl cI) .nil)))
abbrev r08_List_o0 : U := (.cons (.sl cI) .nil)
abbrev r08_List_e0 : U := .nil
def r08_List_s0r (v4 : Int) (c0 : Heap) (r64 : List Int) : Option (SRes r08_List_h0 r08_List_o0 r08_List_e0) :=
 bif decide (v4 < (c0.1.length : Int)) then
  (r08_Get (c0, v4, ())).bind fun y1 =>
  bif y1.2.1 then
   bif decide ((r64.length + 1) * 8 ≤ 140737488355328) then
    some (.next (wi64 (v4 + 1), c0, r64 ++ [v4], ()))
   else none
  else
  some (.next (wi64 (v4 + 1), c0, r64, ()))
 else
 some (.fin (.out (r64, ())))
def r08_List_s0 (x : r08_List_h0.T) : Option (SRes r08_List_h0 r08_List_o0 r08_List_e0) := r08_List_s0r x.1 x.2.1 x.2.2.1
def r08_List_l0 (x : r08_List_h0.T) : Option (LRes r08_List_o0 r08_List_e0) := iterL r08_List_s0 9223372036854775808 x
def r08_List_r (a0 : Heap) : Option ((List Int) × Unit) :=
 (r08_List_l0 (0, a0, [], ())).bind fun s2 => match s2 with
 | .out s2 =>
  some (s2.1, ())
 | .ret s2 =>
  none
def r08_List (x : Heap × Unit) : Option ((List Int) × Unit) := r08_List_r x.1
def r08_List_sm : Sum := ⟨(.cons cHeap .nil), (.cons (.own cI) .nil), r08_List⟩
def r08_List_L0 : LoopSum := { hc := ⟨[], [1, 3, 4], [(.tmp 3, cI)], [], [0], [], 64⟩, h := ⟨[(1, (.pvar 0 [])), (3, (.row 64)), (4, (.d cI))], [(0, (.d cHeap))], [(64, cI, true)], 65⟩, xid := 0, oc := ⟨[], [3], [(.tmp 3, cI)], [], [], [], 64⟩, o := ⟨[(3, (.row 64))], [], [(64, cI, true)], 65⟩, rc := ⟨[], [], [], [], [64], [], 64⟩, r := ⟨[], [], [], 64⟩, F := r08_List_l0 }
def r08_List_c : Ctx := ⟨[(50, r08_Get_sm)], [], [⟨8, 51, 0, 0, r08_List_L0⟩]⟩
theorem r08_List_sem : SemOf Tryz.prog 51 r08_List_sm := semC (c := r08_List_c) Tryz.func51 (sc r08_Get_sem an) an (ec (aeC [true, true, false, true, false, false] r08_List_s0 Tryz.func51) an) 8
def r08_Black_r (a0 : Heap) (a1 : Int) : Option (Bool × Unit) :=
 (r08_Get (a0, a1, ())).bind fun y1 =>
 bif y1.2.1 then
  some (y1.1.2.1 == a0.2.2.1, ())
 else
 some (false, ())
def r08_Black (x : Heap × Int × Unit) : Option (Bool × Unit) := r08_Black_r x.1 x.2.1
def r08_Black_sm : Sum := ⟨(.cons cHeap (.cons cI .nil)), (.cons (.d .bool) .nil), r08_Black⟩
def r08_Black_c : Ctx := ⟨[(50, r08_Get_sm)], [], []⟩
theorem r08_Black_sem : SemOf Tryz.prog 52 r08_Black_sm := semC (c := r08_Black_c) Tryz.func52 (sc r08_Get_sem an) an an 8
abbrev r08_Refs_h0 : U := (.cons cI (.cons cI (.cons cHeap (.cons cHdr (.cons (.sl cI) .nil)))))
abbrev r08_Refs_o0 : U := (.cons (.sl cI) .nil)
abbrev r08_Refs_e0 : U := .nil
def r08_Refs_s0r (v1 : Int) (v8 : Int) (c0 : Heap) (c144 : Hdr) (r208 : List Int) : Option (SRes r08_Refs_h0 r08_Refs_o0 r08_Refs_e0) :=
 bif decide (v8 < c144.2.2.2.1) then
  (r08_Field (c0, v1, v8, ())).bind fun y2 =>
  bif y2.1.1 == 2 then
   bif decide ((r208.length + 1) * 8 ≤ 140737488355328) then
    some (.next (v1, wi64 (v8 + 1), c0, c144, r208 ++ [y2.1.2.1], ()))
   else none
  else
  some (.next (v1, wi64 (v8 + 1), c0, c144, r208, ()))
 else
 some (.fin (.out (r208, ())))
def r08_Refs_s0 (x : r08_Refs_h0.T) : Option (SRes r08_Refs_h0 r08_Refs_o0 r08_Refs_e0) := r08_Refs_s0r x.1 x.2.1 x.2.2.1 x.2.2.2.1 x.2.2.2.2.1
def r08_Refs_l0 (x : r08_Refs_h0.T) : Option (LRes r08_Refs_o0 r08_Refs_e0) := iterL r08_Refs_s0 9223372036854775808 x
def r08_Refs_r (a0 : Heap) (a1 : Int) : Option ((List Int) × Unit) :=
 (r08_Get (a0, a1, ())).bind fun y1 =>
 (r08_Refs_l0 (a1, 0, a0, y1.1, [], ())).bind fun s3 => match s3 with
 | .out s3 =>
  some (s3.1, ())
 | .ret s3 =>
  none
def r08_Refs (x : Heap × Int × Unit) : Option ((List Int) × Unit) := r08_Refs_r x.1 x.2.1
def r08_Refs_sm : Sum := ⟨(.cons cHeap (.cons cI .nil)), (.cons (.own cI) .nil), r08_Refs⟩
def r08_Refs_L0 : LoopSum := { hc := ⟨[], [1, 2, 5, 6, 8], [(.tmp 5, cI)], [], [0, 144], [], 208⟩, h := ⟨[(1, (.d cI)), (2, (.pvar 0 [])), (5, (.row 208)), (6, (.pvar 144 [])), (8, (.d cI))], [(0, (.d cHeap)), (144, (.d cHdr))], [(208, cI, true)], 209⟩, xid := 0, oc := ⟨[], [5], [(.tmp 5, cI)], [], [], [], 208⟩, o := ⟨[(5, (.row 208))], [], [(208, cI, true)], 209⟩, rc := ⟨[], [], [], [], [208], [], 208⟩, r := ⟨[], [], [], 208⟩, F := r08_Refs_l0 }
def r08_Refs_c : Ctx := ⟨[(50, r08_Get_sm), (86, r08_Field_sm)], [], [⟨8, 53, 0, 0, r08_Refs_L0⟩]⟩
theorem r08_Refs_sem : SemOf Tryz.prog 53 r08_Refs_sm := semC (c := r08_Refs_c) Tryz.func53 (sc r08_Get_sem (sc r08_Field_sem an)) an (ec (aeC [true, true, true, false, true, false, false] r08_Refs_s0 Tryz.func53) an) 8
abbrev r08_In_h0 : U := (.cons (.sl cI) cVal)
abbrev r08_In_o0 : U := .nil
abbrev r08_In_e0 : U := (.cons .bool .nil)
def r08_In_s0r (v0 : List Int) (v1 : Int) (v5 : Int) : Option (SRes r08_In_h0 r08_In_o0 r08_In_e0) :=
 bif decide (v5 < (v0.length : Int)) then
  bif decide (0 ≤ v5) then
   bif decide (v5 < (v0.length : Int)) then
    bif (v0.getD v5.toNat 0) == v1 then
     some (.fin (.ret (true, ())))
    else
    some (.next (v0, v1, wi64 (v5 + 1), ()))
   else none
  else none
 else
 some (.fin (.out ()))
def r08_In_s0 (x : r08_In_h0.T) : Option (SRes r08_In_h0 r08_In_o0 r08_In_e0) := r08_In_s0r x.1 x.2.1 x.2.2.1
def r08_In_l0 (x : r08_In_h0.T) : Option (LRes r08_In_o0 r08_In_e0) := iterL r08_In_s0 9223372036854775808 x
def r08_In_r (a0 : List Int) (a1 : Int) : Option (Bool × Unit) :=
 (r08_In_l0 (a0, a1, 0, ())).bind fun s1 => match s1 with
 | .out s1 =>
  some (false, ())
 | .ret s1 =>
  some (s1.1, ())
def r08_In (x : (List Int) × Int × Unit) : Option (Bool × Unit) := r08_In_r x.1 x.2.1
def r08_In_sm : Sum := ⟨(.cons (.sl cI) (.cons cI .nil)), (.cons (.d .bool) .nil), r08_In⟩
def r08_In_L0 : LoopSum := { hc := ⟨[], [0, 1, 5], [], [], [], [], 32⟩, h := ⟨[(0, (.d (.sl cI))), (1, (.d cI)), (5, (.d cI))], [], [], 32⟩, xid := 0, oc := ⟨[], [], [], [], [], [], 32⟩, o := ⟨[], [], [], 32⟩, rc := ⟨[], [4], [], [], [], [], 32⟩, r := ⟨[(4, (.d .bool))], [], [], 32⟩, F := r08_In_l0 }
def r08_In_c : Ctx := ⟨[], [], [⟨8, 54, 0, 0, r08_In_L0⟩]⟩
theorem r08_In_sem : SemOf Tryz.prog 54 r08_In_sm := semC (c := r08_In_c) Tryz.func54 an an (ec (aeC [true, false, true, false, false] r08_In_s0 Tryz.func54) an) 8
abbrev r09_Check_h0 : U := (.cons cI (.cons cI (.cons cI (.cons cI (.cons cHeap (.cons cSpan .nil))))))
abbrev r09_Check_o0 : U := (.cons cI (.cons cI (.cons cHeap .nil)))
abbrev r09_Check_e0 : U := (.cons cI .nil)
def r09_Check_s0r (v3 : Int) (v4 : Int) (v6 : Int) (v7 : Int) (c0 : Heap) (c272 : Span) : Option (SRes r09_Check_h0 r09_Check_o0 r09_Check_e0) :=
 (r04_Blocks (c272.2.1, ())).bind fun y4 =>
 bif decide (v7 < y4.1) then
  (r03_Has (c272.2.2.1, v7, ())).bind fun y5 =>
  bif y5.1 then
   (r09_nought (c0, wi64 ((wi64 (32 * v4)) + (wi64 (v7 * v6))), v6, ())).bind fun y6 =>
   bif !y6.1 then
    some (.fin (.ret (2, ())))
   else
   some (.next (v3, v4, v6, wi64 (v7 + 1), c0, c272, ()))
  else
  (r08_Get (c0, wi64 ((wi64 (32 * v4)) + (wi64 (v7 * v6))), ())).bind fun y7 =>
  bif !y7.2.1 then
   some (.fin (.ret (2, ())))
  else
  bif y7.1.2.2.1 != c272.2.1 then
   some (.fin (.ret (2, ())))
  else
  (r09_nought (c0, wi64 ((wi64 ((wi64 ((wi64 (32 * v4)) + (wi64 (v7 * v6)))) + 1)) + y7.1.2.2.2.1), wi64 ((wi64 (v6 - 1)) - y7.1.2.2.2.1), ())).bind fun y8 =>
  bif !y8.1 then
   some (.next (3, v4, v6, wi64 (v7 + 1), c0, c272, ()))
  else
  some (.next (v3, v4, v6, wi64 (v7 + 1), c0, c272, ()))
 else
 some (.fin (.out (v3, v4, c0, ())))
def r09_Check_s0 (x : r09_Check_h0.T) : Option (SRes r09_Check_h0 r09_Check_o0 r09_Check_e0) := r09_Check_s0r x.1 x.2.1 x.2.2.1 x.2.2.2.1 x.2.2.2.2.1 x.2.2.2.2.2.1
def r09_Check_l0 (x : r09_Check_h0.T) : Option (LRes r09_Check_o0 r09_Check_e0) := iterL r09_Check_s0 9223372036854775808 x
abbrev r09_Check_h1 : U := (.cons cI (.cons cI (.cons cHeap .nil)))
abbrev r09_Check_o1 : U := (.cons cI (.cons cHeap .nil))
abbrev r09_Check_e1 : U := (.cons cI .nil)
def r09_Check_s1r (v3 : Int) (v4 : Int) (c0 : Heap) : Option (SRes r09_Check_h1 r09_Check_o1 r09_Check_e1) :=
 bif decide (v4 < (c0.2.1.length : Int)) then
  bif decide (0 ≤ v4) then
   bif decide (v4 < (c0.2.1.length : Int)) then
    bif (c0.2.1.getD v4.toNat (0, 0, 0, ())).1 == 0 then
     (r09_nought (c0, wi64 (32 * v4), 32, ())).bind fun y2 =>
     bif !y2.1 then
      some (.fin (.ret (2, ())))
     else
     some (.next (v3, wi64 (v4 + 1), c0, ()))
    else
    (r04_Words ((c0.2.1.getD v4.toNat (0, 0, 0, ())).2.1, ())).bind fun y3 =>
    (r09_Check_l0 (v3, v4, y3.1, 0, c0, c0.2.1.getD v4.toNat (0, 0, 0, ()), ())).bind fun s9 => match s9 with
    | .out s9 =>
     some (.next (s9.1, wi64 (s9.2.1 + 1), s9.2.2.1, ()))
    | .ret s9 =>
     some (.fin (.ret (s9.1, ())))
   else none
  else none
 else
 some (.fin (.out (v3, c0, ())))
def r09_Check_s1 (x : r09_Check_h1.T) : Option (SRes r09_Check_h1 r09_Check_o1 r09_Check_e1) := r09_Check_s1r x.1 x.2.1 x.2.2.1
def r09_Check_l1 (x : r09_Check_h1.T) : Option (LRes r09_Check_o1 r09_Check_e1) := iterL r09_Check_s1 9223372036854775808 x
abbrev r09_Check_h2 : U := (.cons cI (.cons cI (.cons cHeap (.cons (.sl cI) (.cons (.sl cI) .nil)))))
abbrev r09_Check_o2 : U := (.cons cI (.cons cHeap (.cons (.sl cI) .nil)))
abbrev r09_Check_e2 : U := (.cons cI .nil)
def r09_Check_s2r (v12 : Int) (v14 : Int) (c0 : Heap) (r160 : List Int) (r672 : List Int) : Option (SRes r09_Check_h2 r09_Check_o2 r09_Check_e2) :=
 bif decide (v14 < (r672.length : Int)) then
  bif decide (0 ≤ v14) then
   bif decide (v14 < (r672.length : Int)) then
    (r08_In (r160, r672.getD v14.toNat 0, ())).bind fun y14 =>
    bif !y14.1 then
     some (.fin (.ret (4, ())))
    else
    some (.next (v12, wi64 (v14 + 1), c0, r160, r672, ()))
   else none
  else none
 else
 some (.fin (.out (v12, c0, r160, ())))
def r09_Check_s2 (x : r09_Check_h2.T) : Option (SRes r09_Check_h2 r09_Check_o2 r09_Check_e2) := r09_Check_s2r x.1 x.2.1 x.2.2.1 x.2.2.2.1 x.2.2.2.2.1
def r09_Check_l2 (x : r09_Check_h2.T) : Option (LRes r09_Check_o2 r09_Check_e2) := iterL r09_Check_s2 9223372036854775808 x
abbrev r09_Check_h3 : U := (.cons cI (.cons cHeap (.cons (.sl cI) .nil)))
abbrev r09_Check_o3 : U := .nil
abbrev r09_Check_e3 : U := (.cons cI .nil)
def r09_Check_s3r (v12 : Int) (c0 : Heap) (r160 : List Int) : Option (SRes r09_Check_h3 r09_Check_o3 r09_Check_e3) :=
 bif decide (v12 < (r160.length : Int)) then
  bif decide (0 ≤ v12) then
   bif decide (v12 < (r160.length : Int)) then
    bif decide (0 ≤ (wi64 ((r160.getD v12.toNat 0).tdiv 32))) then
     bif decide ((wi64 ((r160.getD v12.toNat 0).tdiv 32)) < (c0.2.1.length : Int)) then
      bif (c0.2.1.getD (wi64 ((r160.getD v12.toNat 0).tdiv 32)).toNat (0, 0, 0, ())).1 != 1 then
       bif decide (0 ≤ v12) then
        bif decide (v12 < (r160.length : Int)) then
         (r08_Black (c0, r160.getD v12.toNat 0, ())).bind fun y12 =>
         bif !y12.1 then
          some (.next (wi64 (v12 + 1), c0, r160, ()))
         else
         bif decide (0 ≤ v12) then
          bif decide (v12 < (r160.length : Int)) then
           (r08_Refs (c0, r160.getD v12.toNat 0, ())).bind fun y13 =>
           (r09_Check_l2 (v12, 0, c0, r160, y13.1, ())).bind fun s15 => match s15 with
           | .out s15 =>
            some (.next (wi64 (s15.1 + 1), s15.2.1, s15.2.2.1, ()))
           | .ret s15 =>
            some (.fin (.ret (s15.1, ())))
          else none
         else none
        else none
       else none
      else
      bif decide (0 ≤ v12) then
       bif decide (v12 < (r160.length : Int)) then
        (r08_Refs (c0, r160.getD v12.toNat 0, ())).bind fun y16 =>
        (r09_Check_l2 (v12, 0, c0, r160, y16.1, ())).bind fun s17 => match s17 with
        | .out s17 =>
         some (.next (wi64 (s17.1 + 1), s17.2.1, s17.2.2.1, ()))
        | .ret s17 =>
         some (.fin (.ret (s17.1, ())))
       else none
      else none
     else none
    else none
   else none
  else none
 else
 some (.fin (.out ()))
def r09_Check_s3 (x : r09_Check_h3.T) : Option (SRes r09_Check_h3 r09_Check_o3 r09_Check_e3) := r09_Check_s3r x.1 x.2.1 x.2.2.1
def r09_Check_l3 (x : r09_Check_h3.T) : Option (LRes r09_Check_o3 r09_Check_e3) := iterL r09_Check_s3 9223372036854775808 x
def r09_Check_r (a0 : Heap) : Option (Int × Unit) :=
 (r07_Form (a0, ())).bind fun y1 =>
 bif !y1.1 then
  some (1, ())
 else
 (r09_Check_l1 (0, 0, a0, ())).bind fun s10 => match s10 with
 | .out s10 =>
  bif s10.1 != 0 then
   some (s10.1, ())
  else
  (r08_List (s10.2.1, ())).bind fun y11 =>
  (r09_Check_l3 (0, s10.2.1, y11.1, ())).bind fun s18 => match s18 with
  | .out s18 =>
   some (0, ())
  | .ret s18 =>
   some (s18.1, ())
 | .ret s10 =>
  some (s10.1, ())
def r09_Check (x : Heap × Unit) : Option (Int × Unit) := r09_Check_r x.1
def r09_Check_sm : Sum := ⟨(.cons cHeap .nil), (.cons (.d cI) .nil), r09_Check⟩
def r09_Check_L0 : LoopSum := { hc := ⟨[], [1, 3, 4, 5, 6, 7], [], [], [0, 272], [], 432⟩, h := ⟨[(1, (.pvar 0 [])), (3, (.d cI)), (4, (.d cI)), (5, (.pvar 272 [])), (6, (.d cI)), (7, (.d cI))], [(0, (.d cHeap)), (272, (.d cSpan))], [], 432⟩, xid := 2, oc := ⟨[], [1, 3, 4], [], [], [0], [], 432⟩, o := ⟨[(1, (.pvar 0 [])), (3, (.d cI)), (4, (.d cI))], [(0, (.d cHeap))], [], 432⟩, rc := ⟨[], [2], [], [], [], [], 432⟩, r := ⟨[(2, (.d cI))], [], [], 432⟩, F := r09_Check_l0 }
def r09_Check_L1 : LoopSum := { hc := ⟨[], [1, 3, 4], [], [], [0], [], 112⟩, h := ⟨[(1, (.pvar 0 [])), (3, (.d cI)), (4, (.d cI))], [(0, (.d cHeap))], [], 112⟩, xid := 0, oc := ⟨[], [1, 3], [], [], [0], [], 112⟩, o := ⟨[(1, (.pvar 0 [])), (3, (.d cI))], [(0, (.d cHeap))], [], 112⟩, rc := ⟨[], [2], [], [], [], [], 112⟩, r := ⟨[(2, (.d cI))], [], [], 112⟩, F := r09_Check_l1 }
def r09_Check_L2 : LoopSum := { hc := ⟨[], [1, 11, 12, 13, 14], [], [], [0], [160, 672], 720⟩, h := ⟨[(1, (.pvar 0 [])), (11, (.row 160)), (12, (.d cI)), (13, (.row 672)), (14, (.d cI))], [(0, (.d cHeap))], [(160, cI, true), (672, cI, true)], 720⟩, xid := 6, oc := ⟨[], [1, 11, 12], [], [], [0], [160], 720⟩, o := ⟨[(1, (.pvar 0 [])), (11, (.row 160)), (12, (.d cI))], [(0, (.d cHeap))], [(160, cI, true)], 720⟩, rc := ⟨[], [2], [], [], [], [], 720⟩, r := ⟨[(2, (.d cI))], [], [], 720⟩, F := r09_Check_l2 }
def r09_Check_L3 : LoopSum := { hc := ⟨[], [1, 11, 12], [], [], [0], [160], 208⟩, h := ⟨[(1, (.pvar 0 [])), (11, (.row 160)), (12, (.d cI))], [(0, (.d cHeap))], [(160, cI, true)], 208⟩, xid := 4, oc := ⟨[], [], [], [], [], [], 208⟩, o := ⟨[], [], [], 208⟩, rc := ⟨[], [2], [], [], [], [], 208⟩, r := ⟨[(2, (.d cI))], [], [], 208⟩, F := r09_Check_l3 }
def r09_Check_c : Ctx := ⟨[(42, r07_Form_sm), (46, r09_nought_sm), (47, r04_Words_sm), (48, r04_Blocks_sm), (49, r03_Has_sm), (50, r08_Get_sm), (51, r08_List_sm), (52, r08_Black_sm), (53, r08_Refs_sm), (54, r08_In_sm)], [], [⟨8, 23, 0, 2, r09_Check_L0⟩, ⟨8, 23, 0, 0, r09_Check_L1⟩, ⟨8, 23, 0, 6, r09_Check_L2⟩, ⟨8, 23, 0, 4, r09_Check_L3⟩]⟩
theorem r09_Check_sem : SemOf Tryz.prog 23 r09_Check_sm := semC (c := r09_Check_c) Tryz.func23 (sc r07_Form_sem (sc r09_nought_sem (sc r04_Words_sem (sc r04_Blocks_sem (sc r03_Has_sem (sc r08_Get_sem (sc r08_List_sem (sc r08_Black_sem (sc r08_Refs_sem (sc r08_In_sem an)))))))))) an (ec (aeC [true, true, true, false, true, false, false, true, false, false, true, true, true, true, false, false] r09_Check_s0 Tryz.func23) (ec (aeC [true, true, true, false, true, false, false] r09_Check_s1 Tryz.func23) (ec (aeC [true, true, true, true, true, true, false, true, false, false, true, false, false, true, true, true, false, false] r09_Check_s2 Tryz.func23) (ec (aeC [true, true, true, true, true, true, false, true, false, false] r09_Check_s3 Tryz.func23) an)))) 8
abbrev r21_Ready_h0 : U := (.cons cI (.cons cWrld .nil))
abbrev r21_Ready_o0 : U := .nil
abbrev r21_Ready_e0 : U := (.cons .bool .nil)
def r21_Ready_s0r (v3 : Int) (c0 : Wrld) : Option (SRes r21_Ready_h0 r21_Ready_o0 r21_Ready_e0) :=
 bif decide (v3 < (c0.2.2.1.length : Int)) then
  bif decide (0 ≤ v3) then
   bif decide (v3 < (c0.2.2.1.length : Int)) then
    bif decide ((c0.2.2.1.getD v3.toNat ([], 0, (0, 0, 0, 0, ()), 0, (0, 0, ()), List.replicate 4 0, ())).2.1 < 0) then
     some (.fin (.ret (false, ())))
    else
    bif decide ((c0.2.2.1.getD v3.toNat ([], 0, (0, 0, 0, 0, ()), 0, (0, 0, ()), List.replicate 4 0, ())).2.1 > 4) then
     some (.fin (.ret (false, ())))
    else
    bif decide ((c0.2.2.1.getD v3.toNat ([], 0, (0, 0, 0, 0, ()), 0, (0, 0, ()), List.replicate 4 0, ())).2.1 ≥ 1) then
     bif decide ((c0.2.2.1.getD v3.toNat ([], 0, (0, 0, 0, 0, ()), 0, (0, 0, ()), List.replicate 4 0, ())).2.1 ≤ 3) then
      bif decide (((c0.2.2.1.getD v3.toNat ([], 0, (0, 0, 0, 0, ()), 0, (0, 0, ()), List.replicate 4 0, ())).1.length : Int) ≥ c0.1.2.2.1) then
       some (.fin (.ret (false, ())))
      else
      bif (c0.2.2.1.getD v3.toNat ([], 0, (0, 0, 0, 0, ()), 0, (0, 0, ()), List.replicate 4 0, ())).2.1 == 1 then
       bif decide ((c0.2.2.1.getD v3.toNat ([], 0, (0, 0, 0, 0, ()), 0, (0, 0, ()), List.replicate 4 0, ())).2.2.1.2.1 < 0) then
        some (.fin (.ret (false, ())))
       else
       bif decide ((c0.2.2.1.getD v3.toNat ([], 0, (0, 0, 0, 0, ()), 0, (0, 0, ()), List.replicate 4 0, ())).2.2.1.2.1 > 15) then
        some (.fin (.ret (false, ())))
       else
       some (.next (wi64 (v3 + 1), c0, ()))
      else
      some (.next (wi64 (v3 + 1), c0, ()))
     else
     bif (c0.2.2.1.getD v3.toNat ([], 0, (0, 0, 0, 0, ()), 0, (0, 0, ()), List.replicate 4 0, ())).2.1 == 1 then
      bif decide ((c0.2.2.1.getD v3.toNat ([], 0, (0, 0, 0, 0, ()), 0, (0, 0, ()), List.replicate 4 0, ())).2.2.1.2.1 < 0) then
       some (.fin (.ret (false, ())))
      else
      bif decide ((c0.2.2.1.getD v3.toNat ([], 0, (0, 0, 0, 0, ()), 0, (0, 0, ()), List.replicate 4 0, ())).2.2.1.2.1 > 15) then
       some (.fin (.ret (false, ())))
      else
      some (.next (wi64 (v3 + 1), c0, ()))
     else
     some (.next (wi64 (v3 + 1), c0, ()))
    else
    bif (c0.2.2.1.getD v3.toNat ([], 0, (0, 0, 0, 0, ()), 0, (0, 0, ()), List.replicate 4 0, ())).2.1 == 1 then
     bif decide ((c0.2.2.1.getD v3.toNat ([], 0, (0, 0, 0, 0, ()), 0, (0, 0, ()), List.replicate 4 0, ())).2.2.1.2.1 < 0) then
      some (.fin (.ret (false, ())))
     else
     bif decide ((c0.2.2.1.getD v3.toNat ([], 0, (0, 0, 0, 0, ()), 0, (0, 0, ()), List.replicate 4 0, ())).2.2.1.2.1 > 15) then
      some (.fin (.ret (false, ())))
     else
     some (.next (wi64 (v3 + 1), c0, ()))
    else
    some (.next (wi64 (v3 + 1), c0, ()))
   else none
  else none
 else
 some (.fin (.out ()))
def r21_Ready_s0 (x : r21_Ready_h0.T) : Option (SRes r21_Ready_h0 r21_Ready_o0 r21_Ready_e0) := r21_Ready_s0r x.1 x.2.1
def r21_Ready_l0 (x : r21_Ready_h0.T) : Option (LRes r21_Ready_o0 r21_Ready_e0) := iterL r21_Ready_s0 9223372036854775808 x
def r21_Ready_r (a0 : Wrld) : Option (Bool × Unit) :=
 (r21_Ready_l0 (0, a0, ())).bind fun s1 => match s1 with
 | .out s1 =>
  some (true, ())
 | .ret s1 =>
  some (s1.1, ())
def r21_Ready (x : Wrld × Unit) : Option (Bool × Unit) := r21_Ready_r x.1
def r21_Ready_sm : Sum := ⟨(.cons cWrld .nil), (.cons (.d .bool) .nil), r21_Ready⟩
def r21_Ready_L0 : LoopSum := { hc := ⟨[], [1, 3], [], [], [0], [], 48⟩, h := ⟨[(1, (.pvar 0 [])), (3, (.d cI))], [(0, (.d cWrld))], [], 48⟩, xid := 0, oc := ⟨[], [], [], [], [], [], 48⟩, o := ⟨[], [], [], 48⟩, rc := ⟨[], [2], [], [], [], [], 48⟩, r := ⟨[(2, (.d .bool))], [], [], 48⟩, F := r21_Ready_l0 }
def r21_Ready_c : Ctx := ⟨[], [], [⟨8, 36, 0, 0, r21_Ready_L0⟩]⟩
theorem r21_Ready_sem : SemOf Tryz.prog 36 r21_Ready_sm := semC (c := r21_Ready_c) Tryz.func36 an an (ec (aeC [true, false, true, false, false] r21_Ready_s0 Tryz.func36) an) 8
def r22_Whole_r (a0 : Wrld) : Option (Bool × Unit) :=
 (r20_Form (a0, ())).bind fun y1 =>
 bif y1.1 then
  (r09_Check (a0.2.1, ())).bind fun y2 =>
  bif y2.1 == 0 then
   (r21_Ready (a0, ())).bind fun y3 =>
   some (y3.1, ())
  else
  some (false, ())
 else
 some (false, ())
def r22_Whole (x : Wrld × Unit) : Option (Bool × Unit) := r22_Whole_r x.1
def r22_Whole_sm : Sum := ⟨(.cons cWrld .nil), (.cons (.d .bool) .nil), r22_Whole⟩
def r22_Whole_c : Ctx := ⟨[(22, r20_Form_sm), (23, r09_Check_sm), (36, r21_Ready_sm)], [], []⟩
theorem r22_Whole_sem : SemOf Tryz.prog 16 r22_Whole_sm := semC (c := r22_Whole_c) Tryz.func16 (sc r20_Form_sem (sc r09_Check_sem (sc r21_Ready_sem an))) an an 8
def w22_WorldNews_r (a0 : Rep) (a1 : Wrld) : Option (Bool × Unit) :=
 (w22_awake ()).bind fun y1 =>
 bif !y1.1 then
  (w22_awake ()).bind fun y2 =>
  some (y2.1, ())
 else
 (r20_Few (a1, ())).bind fun y3 =>
 bif !y3.1 then
  (w22_awake ()).bind fun y4 =>
  some (y4.1, ())
 else
 (world_New (a0, ())).bind fun y5 =>
 (r20_May (a0, ())).bind fun y6 =>
 bif y6.1 then
  bif y5.2.1 != 0 then
   some (false, ())
  else
  (r22_New (a0, ())).bind fun y7 =>
  (r20_Same ((y5.1.1, (y5.1.2.1.1, y5.1.2.1.2.1, y5.1.2.1.2.2), y5.1.2.2.1, ((y5.1.2.2.2.1.1.1, y5.1.2.2.2.1.1.2.1, y5.1.2.2.2.1.1.2.2), y5.1.2.2.2.1.2.1, y5.1.2.2.2.1.2.2.1, y5.1.2.2.2.1.2.2.2), y5.1.2.2.2.2.1, y5.1.2.2.2.2.2.1, y5.1.2.2.2.2.2.2.1, y5.1.2.2.2.2.2.2.2.1, y5.1.2.2.2.2.2.2.2.2), (y7.1.1, (y7.1.2.1.1, y7.1.2.1.2.1, y7.1.2.1.2.2), y7.1.2.2.1, ((y7.1.2.2.2.1.1.1, y7.1.2.2.2.1.1.2.1, y7.1.2.2.2.1.1.2.2), y7.1.2.2.2.1.2.1, y7.1.2.2.2.1.2.2.1, y7.1.2.2.2.1.2.2.2), y7.1.2.2.2.2.1, y7.1.2.2.2.2.2.1, y7.1.2.2.2.2.2.2.1, y7.1.2.2.2.2.2.2.2.1, y7.1.2.2.2.2.2.2.2.2), ())).bind fun y8 =>
  bif !y8.1 then
   some (false, ())
  else
  (world_Whole ((y5.1.1, (y5.1.2.1.1, y5.1.2.1.2.1, y5.1.2.1.2.2), y5.1.2.2.1, ((y5.1.2.2.2.1.1.1, y5.1.2.2.2.1.1.2.1, y5.1.2.2.2.1.1.2.2), y5.1.2.2.2.1.2.1, y5.1.2.2.2.1.2.2.1, y5.1.2.2.2.1.2.2.2), y5.1.2.2.2.2.1, y5.1.2.2.2.2.2.1, y5.1.2.2.2.2.2.2.1, y5.1.2.2.2.2.2.2.2.1, y5.1.2.2.2.2.2.2.2.2), ())).bind fun y9 =>
  bif !y9.1 then
   some (false, ())
  else
  (world_Whole (a1, ())).bind fun y10 =>
  (r22_Whole (a1, ())).bind fun y11 =>
  some (y10.1 == y11.1, ())
 else
 bif y5.2.1 != 1 then
  some (false, ())
 else
 (r20_Same ((y5.1.1, (y5.1.2.1.1, y5.1.2.1.2.1, y5.1.2.1.2.2), y5.1.2.2.1, ((y5.1.2.2.2.1.1.1, y5.1.2.2.2.1.1.2.1, y5.1.2.2.2.1.1.2.2), y5.1.2.2.2.1.2.1, y5.1.2.2.2.1.2.2.1, y5.1.2.2.2.1.2.2.2), y5.1.2.2.2.2.1, y5.1.2.2.2.2.2.1, y5.1.2.2.2.2.2.2.1, y5.1.2.2.2.2.2.2.2.1, y5.1.2.2.2.2.2.2.2.2), ((0, 0, 0, 0, 0, ()), ([], [], false, ()), [], ((0, [], ()), [], [], 0, 0, 0, false, ()), 0, false, 0, [], ()), ())).bind fun y12 =>
 bif !y12.1 then
  some (false, ())
 else
 (world_Whole (a1, ())).bind fun y13 =>
 (r22_Whole (a1, ())).bind fun y14 =>
 some (y13.1 == y14.1, ())
def w22_WorldNews (x : Rep × Wrld × Unit) : Option (Bool × Unit) := w22_WorldNews_r x.1 x.2.1
def w22_WorldNews_sm : Sum := ⟨(.cons cRep (.cons cWrld .nil)), (.cons (.d .bool) .nil), w22_WorldNews⟩
def w22_WorldNews_c : Ctx := ⟨[(9, w22_awake_sm), (10, r20_Few_sm), (11, world_New_sm), (12, r20_May_sm), (13, r20_Same_sm), (14, r22_New_sm), (15, world_Whole_sm), (16, r22_Whole_sm)], [], []⟩
theorem w22_WorldNews_sem : SemOf Tryz.prog 3 w22_WorldNews_sm := semC (c := w22_WorldNews_c) Tryz.func3 (sc w22_awake_sem (sc r20_Few_sem (sc world_New_sem (sc r20_May_sem (sc r20_Same_sem (sc r22_New_sem (sc world_Whole_sem (sc r22_Whole_sem an)))))))) an an 8
end
end Go.Proofs.YtbkjmefhenpmlaaGreatDoor.Den
