/- What functions come to. Printed by a program of this session. -/
import Derived.Test.YtdokfjkihjkcmaaGreatDoorDenF2
namespace Go.Proofs.YtdokfjkihjkcmaaGreatDoor.Den
open Go
set_option maxRecDepth 100000
set_option linter.unusedVariables false
noncomputable section
def grey_Right_1_r (a0 : Int) : Option (Bool × Unit) :=
 some (decide (a0 < 0), ())
def grey_Right_1 (x : Int × Unit) : Option (Bool × Unit) := grey_Right_1_r x.1
def grey_Right_1_sm : Sum := ⟨(.cons cI .nil), (.cons (.d .bool) .nil), grey_Right_1⟩
def grey_Right_1_c : Ctx := ⟨[], [], []⟩
theorem grey_Right_1_sem : SemOf Tryz.prog 76 grey_Right_1_sm := semC (c := grey_Right_1_c) Tryz.func76 an an an 8
abbrev grey_Right_h0 : U := (.cons (.sl cI) (.cons cI (.cons cI (.cons cGrey .nil))))
abbrev grey_Right_o0 : U := (.cons cGrey .nil)
abbrev grey_Right_e0 : U := (.cons cI (.cons cGrey .nil))
def grey_Right_s0r (v0 : List Int) (v7 : Int) (v8 : Int) (c0 : Grey) : Option (SRes grey_Right_h0 grey_Right_o0 grey_Right_e0) :=
 bif decide (v8 < v7) then
  bif decide (0 ≤ v8) then
   bif decide (v8 < (v0.length : Int)) then
    (grey_Right_1 (v0.getD v8.toNat 0, ())).bind fun y1 =>
    bif y1.1 then
     some (.fin (.ret (v8, c0, ())))
    else
    some (.next (v0, v7, wi64 (v8 + 1), c0, ()))
   else none
  else none
 else
 some (.fin (.out (c0, ())))
def grey_Right_s0 (x : grey_Right_h0.T) : Option (SRes grey_Right_h0 grey_Right_o0 grey_Right_e0) := grey_Right_s0r x.1 x.2.1 x.2.2.1 x.2.2.2.1
def grey_Right_l0 (x : grey_Right_h0.T) : Option (LRes grey_Right_o0 grey_Right_e0) := iterL grey_Right_s0 9223372036854775808 x
def grey_Right_r (a0 : Grey) : Option (Bool × Unit) :=
 (grey_Right_l0 (a0.2.1, (a0.2.1.length : Int), 0, a0, ())).bind fun s2 => match s2 with
 | .out s2 =>
  bif decide (s2.1.1 ≥ 0) then
   bif decide (s2.1.1 ≤ 16) then
    bif decide ((s2.1.2.1.length : Int) ≤ s2.1.1) then
     some (true, ())
    else
    some (false, ())
   else
   some (false, ())
  else
  some (false, ())
 | .ret s2 =>
  bif decide (s2.2.1.1 ≥ 0) then
   bif decide (s2.2.1.1 ≤ 16) then
    bif decide ((s2.2.1.2.1.length : Int) ≤ s2.2.1.1) then
     some (!(decide (s2.1 ≥ 0)), ())
    else
    some (false, ())
   else
   some (false, ())
  else
  some (false, ())
def grey_Right (x : Grey × Unit) : Option (Bool × Unit) := grey_Right_r x.1
def grey_Right_sm : Sum := ⟨(.cons cGrey .nil), (.cons (.d .bool) .nil), grey_Right⟩
def grey_Right_L0 : LoopSum := { hc := ⟨[], [0, 1, 7, 8], [], [], [0], [], 256⟩, h := ⟨[(0, (.d (.sl cI))), (1, (.fn 76 .nil .nil)), (7, (.d cI)), (8, (.d cI))], [(0, (.d cGrey))], [], 256, false⟩, xid := 0, oc := ⟨[], [], [], [], [0], [], 256⟩, o := ⟨[], [(0, (.d cGrey))], [], 256, false⟩, rc := ⟨[], [4], [], [], [0], [], 256⟩, r := ⟨[(4, (.d cI))], [(0, (.d cGrey))], [], 256, false⟩, F := grey_Right_l0 }
def grey_Right_c : Ctx := ⟨[(76, grey_Right_1_sm)], [(75, Tryz.f75), (100, Tryz.f100)], [⟨6, 100, 192, 0, grey_Right_L0⟩]⟩
theorem grey_Right_sem : SemOf Tryz.prog 51 grey_Right_sm := semC (c := grey_Right_c) Tryz.func51 (sc grey_Right_1_sem an) (fc (flC Tryz.func75) (fc (flC Tryz.func100) an)) (ec (aeC [true, false, true, false, false] grey_Right_s0 Tryz.func100) an) 8
def mark_Right_1_r (a0 : Grey) : Option (Bool × Unit) :=
 (grey_Right (a0, ())).bind fun y1 =>
 some (!y1.1, ())
def mark_Right_1 (x : Grey × Unit) : Option (Bool × Unit) := mark_Right_1_r x.1
def mark_Right_1_sm : Sum := ⟨(.cons cGrey .nil), (.cons (.d .bool) .nil), mark_Right_1⟩
def mark_Right_1_c : Ctx := ⟨[(51, grey_Right_sm)], [], []⟩
theorem mark_Right_1_sem : SemOf Tryz.prog 50 mark_Right_1_sm := semC (c := mark_Right_1_c) Tryz.func50 (sc grey_Right_sem an) an an 8
abbrev mark_Right_h0 : U := (.cons (.sl cGrey) (.cons cI (.cons cI (.cons cHeap (.cons cMarker .nil)))))
abbrev mark_Right_o0 : U := (.cons cHeap (.cons cMarker .nil))
abbrev mark_Right_e0 : U := (.cons cI (.cons cHeap (.cons cMarker .nil)))
def mark_Right_s0r (v0 : List Grey) (v7 : Int) (v8 : Int) (c0 : Heap) (c16 : Marker) : Option (SRes mark_Right_h0 mark_Right_o0 mark_Right_e0) :=
 bif decide (v8 < v7) then
  bif decide (0 ≤ v8) then
   bif decide (v8 < (v0.length : Int)) then
    (mark_Right_1 (v0.getD v8.toNat (0, [], ()), ())).bind fun y2 =>
    bif y2.1 then
     some (.fin (.ret (v8, c0, c16, ())))
    else
    some (.next (v0, v7, wi64 (v8 + 1), c0, c16, ()))
   else none
  else none
 else
 some (.fin (.out (c0, c16, ())))
def mark_Right_s0 (x : mark_Right_h0.T) : Option (SRes mark_Right_h0 mark_Right_o0 mark_Right_e0) := mark_Right_s0r x.1 x.2.1 x.2.2.1 x.2.2.2.1 x.2.2.2.2.1
def mark_Right_l0 (x : mark_Right_h0.T) : Option (LRes mark_Right_o0 mark_Right_e0) := iterL mark_Right_s0 9223372036854775808 x
def mark_Right_r (a0 : Heap) (a1 : Marker) : Option (Bool × Unit) :=
 (object_Get (a0, a1.2.2.2.1, ())).bind fun y1 =>
 bif a1.2.2.2.1 == (-1) then
  bif a1.2.2.2.2.1 == 0 then
   (mark_Right_l0 (a1.2.1, (a1.2.1.length : Int), 0, a0, a1, ())).bind fun s3 => match s3 with
   | .out s3 =>
    (grey_Right (s3.2.1.1, ())).bind fun y4 =>
    bif y4.1 then
     bif decide (s3.2.1.2.2.2.2.2.1 ≥ (-1)) then
      some (decide (s3.2.1.2.2.2.2.2.1 ≤ (s3.1.1.length : Int)), ())
     else
     some (false, ())
    else
    some (false, ())
   | .ret s3 =>
    bif !(decide (s3.1 ≥ 0)) then
     (grey_Right (s3.2.2.1.1, ())).bind fun y5 =>
     bif y5.1 then
      bif decide (s3.2.2.1.2.2.2.2.2.1 ≥ (-1)) then
       some (decide (s3.2.2.1.2.2.2.2.2.1 ≤ (s3.2.1.1.length : Int)), ())
      else
      some (false, ())
     else
     some (false, ())
    else
    some (false, ())
  else
  bif y1.2.1 then
   bif decide (a1.2.2.2.2.1 ≥ 0) then
    (mark_Right_l0 (a1.2.1, (a1.2.1.length : Int), 0, a0, a1, ())).bind fun s6 => match s6 with
    | .out s6 =>
     bif decide (a1.2.2.2.2.1 < y1.1.2.2.2.1) then
      (grey_Right (s6.2.1.1, ())).bind fun y7 =>
      bif y7.1 then
       bif decide (s6.2.1.2.2.2.2.2.1 ≥ (-1)) then
        some (decide (s6.2.1.2.2.2.2.2.1 ≤ (s6.1.1.length : Int)), ())
       else
       some (false, ())
      else
      some (false, ())
     else
     some (false, ())
    | .ret s6 =>
     bif decide (a1.2.2.2.2.1 < y1.1.2.2.2.1) then
      bif !(decide (s6.1 ≥ 0)) then
       (grey_Right (s6.2.2.1.1, ())).bind fun y8 =>
       bif y8.1 then
        bif decide (s6.2.2.1.2.2.2.2.2.1 ≥ (-1)) then
         some (decide (s6.2.2.1.2.2.2.2.2.1 ≤ (s6.2.1.1.length : Int)), ())
        else
        some (false, ())
       else
       some (false, ())
      else
      some (false, ())
     else
     some (false, ())
   else
   (mark_Right_l0 (a1.2.1, (a1.2.1.length : Int), 0, a0, a1, ())).bind fun s9 => match s9 with
   | .out s9 =>
    some (false, ())
   | .ret s9 =>
    some (false, ())
  else
  (mark_Right_l0 (a1.2.1, (a1.2.1.length : Int), 0, a0, a1, ())).bind fun s10 => match s10 with
  | .out s10 =>
   some (false, ())
  | .ret s10 =>
   some (false, ())
 else
 bif y1.2.1 then
  bif decide (a1.2.2.2.2.1 ≥ 0) then
   (mark_Right_l0 (a1.2.1, (a1.2.1.length : Int), 0, a0, a1, ())).bind fun s11 => match s11 with
   | .out s11 =>
    bif decide (a1.2.2.2.2.1 < y1.1.2.2.2.1) then
     (grey_Right (s11.2.1.1, ())).bind fun y12 =>
     bif y12.1 then
      bif decide (s11.2.1.2.2.2.2.2.1 ≥ (-1)) then
       some (decide (s11.2.1.2.2.2.2.2.1 ≤ (s11.1.1.length : Int)), ())
      else
      some (false, ())
     else
     some (false, ())
    else
    some (false, ())
   | .ret s11 =>
    bif decide (a1.2.2.2.2.1 < y1.1.2.2.2.1) then
     bif !(decide (s11.1 ≥ 0)) then
      (grey_Right (s11.2.2.1.1, ())).bind fun y13 =>
      bif y13.1 then
       bif decide (s11.2.2.1.2.2.2.2.2.1 ≥ (-1)) then
        some (decide (s11.2.2.1.2.2.2.2.2.1 ≤ (s11.2.1.1.length : Int)), ())
       else
       some (false, ())
      else
      some (false, ())
     else
     some (false, ())
    else
    some (false, ())
  else
  (mark_Right_l0 (a1.2.1, (a1.2.1.length : Int), 0, a0, a1, ())).bind fun s14 => match s14 with
  | .out s14 =>
   some (false, ())
  | .ret s14 =>
   some (false, ())
 else
 (mark_Right_l0 (a1.2.1, (a1.2.1.length : Int), 0, a0, a1, ())).bind fun s15 => match s15 with
 | .out s15 =>
  some (false, ())
 | .ret s15 =>
  some (false, ())
def mark_Right (x : Heap × Marker × Unit) : Option (Bool × Unit) := mark_Right_r x.1 x.2.1
def mark_Right_sm : Sum := ⟨(.cons cHeap (.cons cMarker .nil)), (.cons (.d .bool) .nil), mark_Right⟩
def mark_Right_L0 : LoopSum := { hc := ⟨[], [0, 1, 7, 8], [], [], [0, 16], [], 816⟩, h := ⟨[(0, (.d (.sl cGrey))), (1, (.fn 50 .nil .nil)), (7, (.d cI)), (8, (.d cI))], [(0, (.d cHeap)), (16, (.d cMarker))], [], 816, false⟩, xid := 0, oc := ⟨[], [], [], [], [0, 16], [], 816⟩, o := ⟨[], [(0, (.d cHeap)), (16, (.d cMarker))], [], 816, false⟩, rc := ⟨[], [4], [], [], [0, 16], [], 816⟩, r := ⟨[(4, (.d cI))], [(0, (.d cHeap)), (16, (.d cMarker))], [], 816, false⟩, F := mark_Right_l0 }
def mark_Right_c : Ctx := ⟨[(48, object_Get_sm), (50, mark_Right_1_sm), (51, grey_Right_sm)], [(49, Tryz.f49), (74, Tryz.f74)], [⟨6, 74, 752, 0, mark_Right_L0⟩]⟩
theorem mark_Right_sem : SemOf Tryz.prog 37 mark_Right_sm := semC (c := mark_Right_c) Tryz.func37 (sc object_Get_sem (sc mark_Right_1_sem (sc grey_Right_sem an))) (fc (flC Tryz.func49) (fc (flC Tryz.func74) an)) (ec (aeC [true, false, true, false, false] mark_Right_s0 Tryz.func74) an) 8
abbrev cycle_Form_h0 : U := (.cons (.sl cMut) (.cons cI (.cons cI (.cons cWrld .nil))))
abbrev cycle_Form_o0 : U := (.cons cWrld .nil)
abbrev cycle_Form_e0 : U := (.cons cI (.cons cWrld .nil))
def cycle_Form_s0r (v0 : List Mut) (v7 : Int) (v8 : Int) (c0 : Wrld) : Option (SRes cycle_Form_h0 cycle_Form_o0 cycle_Form_e0) :=
 bif decide (v8 < v7) then
  bif decide (0 ≤ v8) then
   bif decide (v8 < (v0.length : Int)) then
    bif decide (((v0.getD v8.toNat ([], 0, (0, 0, 0, 0, ()), 0, (0, 0, ()), List.replicate 4 0, ())).1.length : Int) > c0.1.2.2.1) then
     some (.fin (.ret (v8, c0, ())))
    else
    some (.next (v0, v7, wi64 (v8 + 1), c0, ()))
   else none
  else none
 else
 some (.fin (.out (c0, ())))
def cycle_Form_s0 (x : cycle_Form_h0.T) : Option (SRes cycle_Form_h0 cycle_Form_o0 cycle_Form_e0) := cycle_Form_s0r x.1 x.2.1 x.2.2.1 x.2.2.2.1
def cycle_Form_l0 (x : cycle_Form_h0.T) : Option (LRes cycle_Form_o0 cycle_Form_e0) := iterL cycle_Form_s0 9223372036854775808 x
def cycle_Form_r (a0 : Wrld) : Option (Bool × Unit) :=
 (cycle_May (a0.1, ())).bind fun y1 =>
 bif !y1.1 then
  some (false, ())
 else
 (heap_Form (a0.2.1, ())).bind fun y2 =>
 bif !y2.1 then
  some (false, ())
 else
 bif (a0.2.1.2.1.length : Int) != a0.1.1 then
  some (false, ())
 else
 bif (a0.2.2.1.length : Int) != a0.1.2.1 then
  some (false, ())
 else
 (cycle_within (a0.2.2.2.2.1, 0, 2, ())).bind fun y3 =>
 bif !y3.1 then
  some (false, ())
 else
 (cycle_Form_l0 (a0.2.2.1, (a0.2.2.1.length : Int), 0, a0, ())).bind fun s4 => match s4 with
 | .out s4 =>
  (cycle_Caches (s4.1, ())).bind fun y5 =>
  (take_Right (s4.1.2.1, y5.1, ())).bind fun y6 =>
  bif !y6.1 then
   some (false, ())
  else
  bif s4.1.2.2.2.2.1 != 1 then
   some (true, ())
  else
  (mark_Right (s4.1.2.1, s4.1.2.2.2.1, ())).bind fun y7 =>
  bif y7.1 then
   some ((s4.1.2.2.2.1.2.1.length : Int) == (s4.1.2.2.1.length : Int), ())
  else
  some (false, ())
 | .ret s4 =>
  bif decide (s4.1 ≥ 0) then
   some (false, ())
  else
  (cycle_Caches (s4.2.1, ())).bind fun y8 =>
  (take_Right (s4.2.1.2.1, y8.1, ())).bind fun y9 =>
  bif !y9.1 then
   some (false, ())
  else
  bif s4.2.1.2.2.2.2.1 != 1 then
   some (true, ())
  else
  (mark_Right (s4.2.1.2.1, s4.2.1.2.2.2.1, ())).bind fun y10 =>
  bif y10.1 then
   some ((s4.2.1.2.2.2.1.2.1.length : Int) == (s4.2.1.2.2.1.length : Int), ())
  else
  some (false, ())
def cycle_Form (x : Wrld × Unit) : Option (Bool × Unit) := cycle_Form_r x.1
def cycle_Form_sm : Sum := ⟨(.cons cWrld .nil), (.cons (.d .bool) .nil), cycle_Form⟩
def cycle_Form_L0 : LoopSum := { hc := ⟨[], [0, 1, 7, 8], [], [], [0], [], 832⟩, h := ⟨[(0, (.d (.sl cMut))), (1, (.fn 34 .nil (.cons (.pvar 0 []) .nil))), (7, (.d cI)), (8, (.d cI))], [(0, (.d cWrld))], [], 832, false⟩, xid := 0, oc := ⟨[], [], [], [], [0], [], 832⟩, o := ⟨[], [(0, (.d cWrld))], [], 832, false⟩, rc := ⟨[], [4], [], [], [0], [], 832⟩, r := ⟨[(4, (.d cI))], [(0, (.d cWrld))], [], 832, false⟩, F := cycle_Form_l0 }
def cycle_Form_c : Ctx := ⟨[(12, cycle_May_sm), (24, cycle_within_sm), (33, heap_Form_sm), (35, take_Right_sm), (36, cycle_Caches_sm), (37, mark_Right_sm)], [(21, Tryz.f21), (34, Tryz.f34), (39, Tryz.f39)], [⟨6, 39, 768, 0, cycle_Form_L0⟩]⟩
theorem cycle_Form_sem : SemOf Tryz.prog 19 cycle_Form_sm := semC (c := cycle_Form_c) Tryz.func19 (sc cycle_May_sem (sc cycle_within_sem (sc heap_Form_sem (sc take_Right_sem (sc cycle_Caches_sem (sc mark_Right_sem an)))))) (fc (flC Tryz.func21) (fc (flC Tryz.func34) (fc (flC Tryz.func39) an))) (ec (aeC [true, false, true, false, false] cycle_Form_s0 Tryz.func39) an) 8
def sound_whole_formed_r (a0 : Heap × Unit) : Option (Bool × Unit) :=
 (heap_Form (a0.1, ())).bind fun y1 =>
 some (y1.1, ())
def sound_whole_formed (x : (Heap × Unit) × Unit) : Option (Bool × Unit) := sound_whole_formed_r x.1
def sound_whole_formed_sm : Sum := ⟨(.cons (.cons cHeap .nil) .nil), (.cons (.d .bool) .nil), sound_whole_formed⟩
def sound_whole_formed_c : Ctx := ⟨[(33, heap_Form_sm)], [], []⟩
theorem sound_whole_formed_sem : SemOf Tryz.prog 52 sound_whole_formed_sm := semC (c := sound_whole_formed_c) Tryz.func52 (sc heap_Form_sem an) an an 8
def sound_whole_clear_1_r (a0 : Int) : Option (Bool × Unit) :=
 some (a0 != 0, ())
def sound_whole_clear_1 (x : Int × Unit) : Option (Bool × Unit) := sound_whole_clear_1_r x.1
def sound_whole_clear_1_sm : Sum := ⟨(.cons (.int .u64) .nil), (.cons (.d .bool) .nil), sound_whole_clear_1⟩
def sound_whole_clear_1_c : Ctx := ⟨[], [], []⟩
theorem sound_whole_clear_1_sem : SemOf Tryz.prog 102 sound_whole_clear_1_sm := semC (c := sound_whole_clear_1_c) Tryz.func102 an an an 8
abbrev sound_whole_clear_h0 : U := (.cons (.sl (.int .u64)) cVal)
abbrev sound_whole_clear_o0 : U := .nil
abbrev sound_whole_clear_e0 : U := (.cons cI .nil)
def sound_whole_clear_s0r (v0 : List Int) (v7 : Int) (v8 : Int) : Option (SRes sound_whole_clear_h0 sound_whole_clear_o0 sound_whole_clear_e0) :=
 bif decide (v8 < v7) then
  bif decide (0 ≤ v8) then
   bif decide (v8 < (v0.length : Int)) then
    (sound_whole_clear_1 (v0.getD v8.toNat 0, ())).bind fun y1 =>
    bif y1.1 then
     some (.fin (.ret (v8, ())))
    else
    some (.next (v0, v7, wi64 (v8 + 1), ()))
   else none
  else none
 else
 some (.fin (.out ()))
def sound_whole_clear_s0 (x : sound_whole_clear_h0.T) : Option (SRes sound_whole_clear_h0 sound_whole_clear_o0 sound_whole_clear_e0) := sound_whole_clear_s0r x.1 x.2.1 x.2.2.1
def sound_whole_clear_l0 (x : sound_whole_clear_h0.T) : Option (LRes sound_whole_clear_o0 sound_whole_clear_e0) := iterL sound_whole_clear_s0 9223372036854775808 x
def sound_whole_clear_r (a0 : Heap × Unit) (a1 : Int) (a2 : Int) : Option (Bool × Unit) :=
 bif decide (0 ≤ a1) then
  bif decide (a1 ≤ a2) then
   bif decide (a2 ≤ (a0.1.1.length : Int)) then
    (sound_whole_clear_l0 ((a0.1.1.drop a1.toNat).take (a2.toNat - a1.toNat), (((a0.1.1.drop a1.toNat).take (a2.toNat - a1.toNat)).length : Int), 0, ())).bind fun s2 => match s2 with
    | .out s2 =>
     some (true, ())
    | .ret s2 =>
     some (!(decide (s2.1 ≥ 0)), ())
   else none
  else none
 else none
def sound_whole_clear (x : (Heap × Unit) × Val) : Option (Bool × Unit) := sound_whole_clear_r x.1 x.2.1 x.2.2.1
def sound_whole_clear_sm : Sum := ⟨(.cons (.cons cHeap .nil) cVal), (.cons (.d .bool) .nil), sound_whole_clear⟩
def sound_whole_clear_L0 : LoopSum := { hc := ⟨[], [0, 1, 7, 8], [], [], [], [], 336⟩, h := ⟨[(0, (.d (.sl (.int .u64)))), (1, (.fn 102 .nil .nil)), (7, (.d cI)), (8, (.d cI))], [], [], 336, false⟩, xid := 0, oc := ⟨[], [], [], [], [], [], 336⟩, o := ⟨[], [], [], 336, false⟩, rc := ⟨[], [4], [], [], [], [], 336⟩, r := ⟨[(4, (.d cI))], [], [], 336, false⟩, F := sound_whole_clear_l0 }
def sound_whole_clear_c : Ctx := ⟨[(102, sound_whole_clear_1_sm)], [(101, Tryz.f101), (125, Tryz.f125)], [⟨6, 125, 272, 0, sound_whole_clear_L0⟩]⟩
theorem sound_whole_clear_sem : SemOf Tryz.prog 77 sound_whole_clear_sm := semC (c := sound_whole_clear_c) Tryz.func77 (sc sound_whole_clear_1_sem an) (fc (flC Tryz.func101) (fc (flC Tryz.func125) an)) (ec (aeC [true, false, true, false, false] sound_whole_clear_s0 Tryz.func125) an) 8
def bits_Has_r (a0 : Int) (a1 : Int) : Option (Bool × Unit) :=
 (bits_one (a1, ())).bind fun y1 =>
 some ((bitsI .and .u32 a0 y1.1) != 0, ())
def bits_Has (x : Int × Int × Unit) : Option (Bool × Unit) := bits_Has_r x.1 x.2.1
def bits_Has_sm : Sum := ⟨(.cons (.int .u32) (.cons cI .nil)), (.cons (.d .bool) .nil), bits_Has⟩
def bits_Has_c : Ctx := ⟨[(123, bits_one_sm)], [], []⟩
theorem bits_Has_sem : SemOf Tryz.prog 103 bits_Has_sm := semC (c := bits_Has_c) Tryz.func103 (sc bits_one_sem an) an an 8
abbrev sound_whole_filled_h0 : U := (.cons (.sl cSpan) (.cons cI (.cons cI (.cons (.cons cHeap .nil) .nil))))
abbrev sound_whole_filled_o0 : U := (.cons (.cons cHeap .nil) .nil)
abbrev sound_whole_filled_e0 : U := (.cons .bool .nil)
def sound_whole_filled_s0r (v7 : List Span) (v8 : Int) (v9 : Int) (c0 : Heap × Unit) : Option (SRes sound_whole_filled_h0 sound_whole_filled_o0 sound_whole_filled_e0) :=
 bif decide (v9 < v8) then
  bif decide (0 ≤ v9) then
   bif decide (v9 < (v7.length : Int)) then
    bif (v7.getD v9.toNat (0, 0, 0, ())).1 == 0 then
     (sound_whole_clear (c0, wi64 (v9 * 32), wi64 ((wi64 (v9 + 1)) * 32), ())).bind fun y1 =>
     bif !y1.1 then
      some (.fin (.ret (false, ())))
     else
     some (.next (v7, v8, wi64 (v9 + 1), c0, ()))
    else
    some (.next (v7, v8, wi64 (v9 + 1), c0, ()))
   else none
  else none
 else
 some (.fin (.out (c0, ())))
def sound_whole_filled_s0 (x : sound_whole_filled_h0.T) : Option (SRes sound_whole_filled_h0 sound_whole_filled_o0 sound_whole_filled_e0) := sound_whole_filled_s0r x.1 x.2.1 x.2.2.1 x.2.2.2.1
def sound_whole_filled_l0 (x : sound_whole_filled_h0.T) : Option (LRes sound_whole_filled_o0 sound_whole_filled_e0) := iterL sound_whole_filled_s0 9223372036854775808 x
abbrev sound_whole_filled_h1 : U := (.cons cI (.cons (.sl cSpan) (.cons cI (.cons cI (.cons cI (.cons cI (.cons (.cons cHeap .nil) (.cons cSpan .nil))))))))
abbrev sound_whole_filled_o1 : U := (.cons (.sl cSpan) (.cons cI (.cons cI (.cons (.cons cHeap .nil) .nil))))
abbrev sound_whole_filled_e1 : U := (.cons .bool .nil)
def sound_whole_filled_s1r (v5 : Int) (v10 : List Span) (v11 : Int) (v12 : Int) (v19 : Int) (v20 : Int) (c0 : Heap × Unit) (c352 : Span) : Option (SRes sound_whole_filled_h1 sound_whole_filled_o1 sound_whole_filled_e1) :=
 bif decide (v20 < v19) then
  bif c352.1 != 0 then
   (class_Words (c352.2.1, ())).bind fun y4 =>
   (bits_Has (c352.2.2.1, v20, ())).bind fun y5 =>
   bif decide (0 ≤ v5) then
    bif decide (v5 < (c0.1.2.1.length : Int)) then
     bif y5.1 then
      (class_Words ((c0.1.2.1.getD v5.toNat (0, 0, 0, ())).2.1, ())).bind fun y6 =>
      (sound_whole_clear (c0, wi64 ((wi64 (v5 * 32)) + (wi64 (v20 * y4.1))), wi64 ((wi64 ((wi64 (v5 * 32)) + (wi64 (v20 * y4.1)))) + y6.1), ())).bind fun y7 =>
      bif !y7.1 then
       some (.fin (.ret (false, ())))
      else
      some (.next (v5, v10, v11, v12, v19, wi64 (v20 + 1), c0, c352, ()))
     else
     (object_Get (c0.1, wi64 ((wi64 (v5 * 32)) + (wi64 (v20 * y4.1))), ())).bind fun y8 =>
     bif y8.2.1 then
      bif !(y8.1.2.2.1 == (c0.1.2.1.getD v5.toNat (0, 0, 0, ())).2.1) then
       some (.fin (.ret (false, ())))
      else
      some (.next (v5, v10, v11, v12, v19, wi64 (v20 + 1), c0, c352, ()))
     else
     some (.fin (.ret (false, ())))
    else none
   else none
  else
  some (.next (v5, v10, v11, v12, v19, wi64 (v20 + 1), c0, c352, ()))
 else
 some (.fin (.out (v10, v11, v12, c0, ())))
def sound_whole_filled_s1 (x : sound_whole_filled_h1.T) : Option (SRes sound_whole_filled_h1 sound_whole_filled_o1 sound_whole_filled_e1) := sound_whole_filled_s1r x.1 x.2.1 x.2.2.1 x.2.2.2.1 x.2.2.2.2.1 x.2.2.2.2.2.1 x.2.2.2.2.2.2.1 x.2.2.2.2.2.2.2.1
def sound_whole_filled_l1 (x : sound_whole_filled_h1.T) : Option (LRes sound_whole_filled_o1 sound_whole_filled_e1) := iterL sound_whole_filled_s1 9223372036854775808 x
abbrev sound_whole_filled_h2 : U := (.cons (.sl cSpan) (.cons cI (.cons cI (.cons (.cons cHeap .nil) .nil))))
abbrev sound_whole_filled_o2 : U := .nil
abbrev sound_whole_filled_e2 : U := (.cons .bool .nil)
def sound_whole_filled_s2r (v10 : List Span) (v11 : Int) (v12 : Int) (c0 : Heap × Unit) : Option (SRes sound_whole_filled_h2 sound_whole_filled_o2 sound_whole_filled_e2) :=
 bif decide (v12 < v11) then
  bif decide (0 ≤ v12) then
   bif decide (v12 < (v10.length : Int)) then
    (class_Blocks ((v10.getD v12.toNat (0, 0, 0, ())).2.1, ())).bind fun y3 =>
    (sound_whole_filled_l1 (v12, v10, v11, v12, y3.1, 0, c0, v10.getD v12.toNat (0, 0, 0, ()), ())).bind fun s9 => match s9 with
    | .out s9 =>
     some (.next (s9.1, s9.2.1, wi64 (s9.2.2.1 + 1), s9.2.2.2.1, ()))
    | .ret s9 =>
     some (.fin (.ret (s9.1, ())))
   else none
  else none
 else
 some (.fin (.out ()))
def sound_whole_filled_s2 (x : sound_whole_filled_h2.T) : Option (SRes sound_whole_filled_h2 sound_whole_filled_o2 sound_whole_filled_e2) := sound_whole_filled_s2r x.1 x.2.1 x.2.2.1 x.2.2.2.1
def sound_whole_filled_l2 (x : sound_whole_filled_h2.T) : Option (LRes sound_whole_filled_o2 sound_whole_filled_e2) := iterL sound_whole_filled_s2 9223372036854775808 x
def sound_whole_filled_r (a0 : Heap × Unit) : Option (Bool × Unit) :=
 (sound_whole_filled_l0 (a0.1.2.1, (a0.1.2.1.length : Int), 0, a0, ())).bind fun s2 => match s2 with
 | .out s2 =>
  (sound_whole_filled_l2 (s2.1.1.2.1, (s2.1.1.2.1.length : Int), 0, s2.1, ())).bind fun s10 => match s10 with
  | .out s10 =>
   some (true, ())
  | .ret s10 =>
   some (s10.1, ())
 | .ret s2 =>
  some (s2.1, ())
def sound_whole_filled (x : (Heap × Unit) × Unit) : Option (Bool × Unit) := sound_whole_filled_r x.1
def sound_whole_filled_sm : Sum := ⟨(.cons (.cons cHeap .nil) .nil), (.cons (.d .bool) .nil), sound_whole_filled⟩
def sound_whole_filled_L0 : LoopSum := { hc := ⟨[], [1, 7, 8, 9], [], [], [0], [], 112⟩, h := ⟨[(1, (.pvar 0 [])), (7, (.d (.sl cSpan))), (8, (.d cI)), (9, (.d cI))], [(0, (.d (.cons cHeap .nil)))], [], 112, false⟩, xid := 0, oc := ⟨[], [1], [], [], [0], [], 112⟩, o := ⟨[(1, (.pvar 0 []))], [(0, (.d (.cons cHeap .nil)))], [], 112, false⟩, rc := ⟨[], [2], [], [], [], [], 112⟩, r := ⟨[(2, (.d .bool))], [], [], 112, false⟩, F := sound_whole_filled_l0 }
def sound_whole_filled_L1 : LoopSum := { hc := ⟨[], [1, 5, 6, 10, 11, 12, 19, 20], [], [], [0, 352], [], 464⟩, h := ⟨[(1, (.fn 79 .nil (.cons (.pvar 0 []) .nil))), (5, (.d cI)), (6, (.pvar 352 [])), (10, (.d (.sl cSpan))), (11, (.d cI)), (12, (.d cI)), (19, (.d cI)), (20, (.d cI))], [(0, (.d (.cons cHeap .nil))), (352, (.d cSpan))], [], 464, false⟩, xid := 2, oc := ⟨[], [1, 10, 11, 12], [], [], [0], [], 464⟩, o := ⟨[(1, (.fn 79 .nil (.cons (.pvar 0 []) .nil))), (10, (.d (.sl cSpan))), (11, (.d cI)), (12, (.d cI))], [(0, (.d (.cons cHeap .nil)))], [], 464, false⟩, rc := ⟨[], [4], [], [], [], [], 464⟩, r := ⟨[(4, (.d .bool))], [], [], 464, false⟩, F := sound_whole_filled_l1 }
def sound_whole_filled_L2 : LoopSum := { hc := ⟨[], [1, 10, 11, 12], [], [], [0], [], 288⟩, h := ⟨[(1, (.fn 79 .nil (.cons (.pvar 0 []) .nil))), (10, (.d (.sl cSpan))), (11, (.d cI)), (12, (.d cI))], [(0, (.d (.cons cHeap .nil)))], [], 288, false⟩, xid := 0, oc := ⟨[], [], [], [], [], [], 288⟩, o := ⟨[], [], [], 288, false⟩, rc := ⟨[], [4], [], [], [], [], 288⟩, r := ⟨[(4, (.d .bool))], [], [], 288, false⟩, F := sound_whole_filled_l2 }
def sound_whole_filled_c : Ctx := ⟨[(48, object_Get_sm), (62, class_Blocks_sm), (63, class_Words_sm), (77, sound_whole_clear_sm), (103, bits_Has_sm)], [(78, Tryz.f78), (79, Tryz.f79)], [⟨8, 53, 0, 0, sound_whole_filled_L0⟩, ⟨7, 78, 176, 2, sound_whole_filled_L1⟩, ⟨7, 78, 176, 0, sound_whole_filled_L2⟩]⟩
theorem sound_whole_filled_sem : SemOf Tryz.prog 53 sound_whole_filled_sm := semC (c := sound_whole_filled_c) Tryz.func53 (sc object_Get_sem (sc class_Blocks_sem (sc class_Words_sem (sc sound_whole_clear_sem (sc bits_Has_sem an))))) (fc (flC Tryz.func78) (fc (flC Tryz.func79) an)) (ec (aeC [true, false, true, false, false] sound_whole_filled_s0 Tryz.func53) (ec (aeC [true, false, true, false, false, true, true, false, false, true, true, false, false] sound_whole_filled_s1 Tryz.func78) (ec (aeC [true, false, true, false, false] sound_whole_filled_s2 Tryz.func78) an))) 8
abbrev sound_whole_behind_h0 : U := (.cons cI (.cons (.sl cSpan) (.cons cI (.cons cI (.cons cI (.cons cI (.cons (.cons cHeap .nil) (.cons cSpan .nil))))))))
abbrev sound_whole_behind_o0 : U := (.cons (.sl cSpan) (.cons cI (.cons cI (.cons (.cons cHeap .nil) .nil))))
abbrev sound_whole_behind_e0 : U := (.cons .bool .nil)
def sound_whole_behind_s0r (v5 : Int) (v10 : List Span) (v11 : Int) (v12 : Int) (v19 : Int) (v20 : Int) (c0 : Heap × Unit) (c272 : Span) : Option (SRes sound_whole_behind_h0 sound_whole_behind_o0 sound_whole_behind_e0) :=
 bif decide (v20 < v19) then
  bif c272.1 != 0 then
   (class_Words (c272.2.1, ())).bind fun y2 =>
   (bits_Has (c272.2.2.1, v20, ())).bind fun y3 =>
   (object_Get (c0.1, wi64 ((wi64 (v5 * 32)) + (wi64 (v20 * y2.1))), ())).bind fun y4 =>
   bif decide (0 ≤ v5) then
    bif decide (v5 < (c0.1.2.1.length : Int)) then
     (class_Words ((c0.1.2.1.getD v5.toNat (0, 0, 0, ())).2.1, ())).bind fun y5 =>
     (sound_whole_clear (c0, wi64 ((wi64 ((wi64 ((wi64 (v5 * 32)) + (wi64 (v20 * y2.1)))) + 1)) + y4.1.2.2.2.1), bif decide ((wi64 ((wi64 ((wi64 (v5 * 32)) + (wi64 (v20 * y2.1)))) + y5.1)) < (wi64 ((wi64 ((wi64 ((wi64 (v5 * 32)) + (wi64 (v20 * y2.1)))) + 1)) + y4.1.2.2.2.1))) then wi64 ((wi64 ((wi64 ((wi64 (v5 * 32)) + (wi64 (v20 * y2.1)))) + 1)) + y4.1.2.2.2.1) else wi64 ((wi64 ((wi64 (v5 * 32)) + (wi64 (v20 * y2.1)))) + y5.1), ())).bind fun y6 =>
     bif !y6.1 then
      some (.fin (.ret (false, ())))
     else
     some (.next (v5, v10, v11, v12, v19, wi64 (v20 + 1), c0, c272, ()))
    else none
   else none
  else
  some (.next (v5, v10, v11, v12, v19, wi64 (v20 + 1), c0, c272, ()))
 else
 some (.fin (.out (v10, v11, v12, c0, ())))
def sound_whole_behind_s0 (x : sound_whole_behind_h0.T) : Option (SRes sound_whole_behind_h0 sound_whole_behind_o0 sound_whole_behind_e0) := sound_whole_behind_s0r x.1 x.2.1 x.2.2.1 x.2.2.2.1 x.2.2.2.2.1 x.2.2.2.2.2.1 x.2.2.2.2.2.2.1 x.2.2.2.2.2.2.2.1
def sound_whole_behind_l0 (x : sound_whole_behind_h0.T) : Option (LRes sound_whole_behind_o0 sound_whole_behind_e0) := iterL sound_whole_behind_s0 9223372036854775808 x
abbrev sound_whole_behind_h1 : U := (.cons (.sl cSpan) (.cons cI (.cons cI (.cons (.cons cHeap .nil) .nil))))
abbrev sound_whole_behind_o1 : U := .nil
abbrev sound_whole_behind_e1 : U := (.cons .bool .nil)
def sound_whole_behind_s1r (v10 : List Span) (v11 : Int) (v12 : Int) (c0 : Heap × Unit) : Option (SRes sound_whole_behind_h1 sound_whole_behind_o1 sound_whole_behind_e1) :=
 bif decide (v12 < v11) then
  bif decide (0 ≤ v12) then
   bif decide (v12 < (v10.length : Int)) then
    (class_Blocks ((v10.getD v12.toNat (0, 0, 0, ())).2.1, ())).bind fun y1 =>
    (sound_whole_behind_l0 (v12, v10, v11, v12, y1.1, 0, c0, v10.getD v12.toNat (0, 0, 0, ()), ())).bind fun s7 => match s7 with
    | .out s7 =>
     some (.next (s7.1, s7.2.1, wi64 (s7.2.2.1 + 1), s7.2.2.2.1, ()))
    | .ret s7 =>
     some (.fin (.ret (s7.1, ())))
   else none
  else none
 else
 some (.fin (.out ()))
def sound_whole_behind_s1 (x : sound_whole_behind_h1.T) : Option (SRes sound_whole_behind_h1 sound_whole_behind_o1 sound_whole_behind_e1) := sound_whole_behind_s1r x.1 x.2.1 x.2.2.1 x.2.2.2.1
def sound_whole_behind_l1 (x : sound_whole_behind_h1.T) : Option (LRes sound_whole_behind_o1 sound_whole_behind_e1) := iterL sound_whole_behind_s1 9223372036854775808 x
def sound_whole_behind_r (a0 : Heap × Unit) : Option (Bool × Unit) :=
 (sound_whole_behind_l1 (a0.1.2.1, (a0.1.2.1.length : Int), 0, a0, ())).bind fun s8 => match s8 with
 | .out s8 =>
  some (true, ())
 | .ret s8 =>
  some (s8.1, ())
def sound_whole_behind (x : (Heap × Unit) × Unit) : Option (Bool × Unit) := sound_whole_behind_r x.1
def sound_whole_behind_sm : Sum := ⟨(.cons (.cons cHeap .nil) .nil), (.cons (.d .bool) .nil), sound_whole_behind⟩
def sound_whole_behind_L0 : LoopSum := { hc := ⟨[], [1, 5, 6, 10, 11, 12, 19, 20], [], [], [0, 272], [], 384⟩, h := ⟨[(1, (.fn 80 .nil (.cons (.pvar 0 []) .nil))), (5, (.d cI)), (6, (.pvar 272 [])), (10, (.d (.sl cSpan))), (11, (.d cI)), (12, (.d cI)), (19, (.d cI)), (20, (.d cI))], [(0, (.d (.cons cHeap .nil))), (272, (.d cSpan))], [], 384, false⟩, xid := 2, oc := ⟨[], [1, 10, 11, 12], [], [], [0], [], 384⟩, o := ⟨[(1, (.fn 80 .nil (.cons (.pvar 0 []) .nil))), (10, (.d (.sl cSpan))), (11, (.d cI)), (12, (.d cI))], [(0, (.d (.cons cHeap .nil)))], [], 384, false⟩, rc := ⟨[], [4], [], [], [], [], 384⟩, r := ⟨[(4, (.d .bool))], [], [], 384, false⟩, F := sound_whole_behind_l0 }
def sound_whole_behind_L1 : LoopSum := { hc := ⟨[], [1, 10, 11, 12], [], [], [0], [], 208⟩, h := ⟨[(1, (.fn 80 .nil (.cons (.pvar 0 []) .nil))), (10, (.d (.sl cSpan))), (11, (.d cI)), (12, (.d cI))], [(0, (.d (.cons cHeap .nil)))], [], 208, false⟩, xid := 0, oc := ⟨[], [], [], [], [], [], 208⟩, o := ⟨[], [], [], 208, false⟩, rc := ⟨[], [4], [], [], [], [], 208⟩, r := ⟨[(4, (.d .bool))], [], [], 208, false⟩, F := sound_whole_behind_l1 }
def sound_whole_behind_c : Ctx := ⟨[(48, object_Get_sm), (62, class_Blocks_sm), (63, class_Words_sm), (77, sound_whole_clear_sm), (103, bits_Has_sm)], [(78, Tryz.f78), (80, Tryz.f80)], [⟨7, 78, 96, 2, sound_whole_behind_L0⟩, ⟨7, 78, 96, 0, sound_whole_behind_L1⟩]⟩
theorem sound_whole_behind_sem : SemOf Tryz.prog 54 sound_whole_behind_sm := semC (c := sound_whole_behind_c) Tryz.func54 (sc object_Get_sem (sc class_Blocks_sem (sc class_Words_sem (sc sound_whole_clear_sem (sc bits_Has_sem an))))) (fc (flC Tryz.func78) (fc (flC Tryz.func80) an)) (ec (aeC [true, false, true, false, false, true, true, false, false, true, true, false, false] sound_whole_behind_s0 Tryz.func78) (ec (aeC [true, false, true, false, false] sound_whole_behind_s1 Tryz.func78) an)) 8
def object_Black_r (a0 : Heap) (a1 : Int) : Option (Bool × Unit) :=
 (object_Get (a0, a1, ())).bind fun y1 =>
 bif y1.2.1 then
  some (y1.1.2.1 == a0.2.2.1, ())
 else
 some (false, ())
def object_Black (x : Heap × Int × Unit) : Option (Bool × Unit) := object_Black_r x.1 x.2.1
def object_Black_sm : Sum := ⟨(.cons cHeap (.cons cI .nil)), (.cons (.d .bool) .nil), object_Black⟩
def object_Black_c : Ctx := ⟨[(48, object_Get_sm)], [], []⟩
theorem object_Black_sem : SemOf Tryz.prog 64 object_Black_sm := semC (c := object_Black_c) Tryz.func64 (sc object_Get_sem an) an an 8
abbrev object_Refs_h0 : U := (.cons cI (.cons cI (.cons cI (.cons cHeap (.cons (.sl cI) .nil)))))
abbrev object_Refs_o0 : U := (.cons (.sl cI) .nil)
abbrev object_Refs_e0 : U := .nil
def object_Refs_s0r (v1 : Int) (v17 : Int) (v18 : Int) (c0 : Heap) (r240 : List Int) : Option (SRes object_Refs_h0 object_Refs_o0 object_Refs_e0) :=
 bif decide (v18 < v17) then
  bif decide (0 ≤ (wi64 ((wi64 (v1 + 1)) + v18))) then
   bif decide ((wi64 ((wi64 (v1 + 1)) + v18)) < (c0.1.length : Int)) then
    (word_Get (c0.1.getD (wi64 ((wi64 (v1 + 1)) + v18)).toNat 0, ())).bind fun y2 =>
    bif y2.1.1 == 2 then
     bif decide ((r240.length + 1) * 8 ≤ 140737488355328) then
      some (.next (v1, v17, wi64 (v18 + 1), c0, r240 ++ [y2.1.2.1], ()))
     else none
    else
    some (.next (v1, v17, wi64 (v18 + 1), c0, r240, ()))
   else none
  else none
 else
 some (.fin (.out (r240, ())))
def object_Refs_s0 (x : object_Refs_h0.T) : Option (SRes object_Refs_h0 object_Refs_o0 object_Refs_e0) := object_Refs_s0r x.1 x.2.1 x.2.2.1 x.2.2.2.1 x.2.2.2.2.1
def object_Refs_l0 (x : object_Refs_h0.T) : Option (LRes object_Refs_o0 object_Refs_e0) := iterL object_Refs_s0 9223372036854775808 x
def object_Refs_r (a0 : Heap) (a1 : Int) : Option ((List Int) × Unit) :=
 (object_Get (a0, a1, ())).bind fun y1 =>
 (object_Refs_l0 (a1, y1.1.2.2.2.1, 0, a0, [], ())).bind fun s3 => match s3 with
 | .out s3 =>
  some (s3.1, ())
 | .ret s3 =>
  none
def object_Refs (x : Heap × Int × Unit) : Option ((List Int) × Unit) := object_Refs_r x.1 x.2.1
def object_Refs_sm : Sum := ⟨(.cons cHeap (.cons cI .nil)), (.cons (.own cI) .nil), object_Refs⟩
def object_Refs_L0 : LoopSum := { hc := ⟨[], [1, 2, 5, 17, 18], [(.tmp 5, cI)], [], [0], [], 240⟩, h := ⟨[(1, (.d cI)), (2, (.pvar 0 [])), (5, (.row 240)), (17, (.d cI)), (18, (.d cI))], [(0, (.d cHeap))], [(240, cI, true)], 241, false⟩, xid := 0, oc := ⟨[], [5], [(.tmp 5, cI)], [], [], [], 240⟩, o := ⟨[(5, (.row 240))], [], [(240, cI, true)], 241, false⟩, rc := ⟨[], [], [], [], [240], [], 240⟩, r := ⟨[], [], [], 240, false⟩, F := object_Refs_l0 }
def object_Refs_c : Ctx := ⟨[(48, object_Get_sm), (104, word_Get_sm)], [], [⟨8, 82, 0, 0, object_Refs_L0⟩]⟩
theorem object_Refs_sem : SemOf Tryz.prog 82 object_Refs_sm := semC (c := object_Refs_c) Tryz.func82 (sc object_Get_sem (sc word_Get_sem an)) an (ec (aeC [true, true, true, false, true, false, false] object_Refs_s0 Tryz.func82) an) 8
abbrev sound_whole_referred_h0 : U := (.cons cI (.cons cI (.cons (.cons cHeap .nil) (.cons cSpan (.cons (.sl cI) .nil)))))
abbrev sound_whole_referred_o0 : U := (.cons (.cons cHeap .nil) (.cons cSpan .nil))
abbrev sound_whole_referred_e0 : U := (.cons cI (.cons (.cons cHeap .nil) (.cons cSpan .nil)))
def sound_whole_referred_s0r (v7 : Int) (v8 : Int) (c0 : Heap × Unit) (c272 : Span) (r1120 : List Int) : Option (SRes sound_whole_referred_h0 sound_whole_referred_o0 sound_whole_referred_e0) :=
 bif decide (v8 < v7) then
  bif decide (0 ≤ v8) then
   bif decide (v8 < (r1120.length : Int)) then
    (object_Get (c0.1, r1120.getD v8.toNat 0, ())).bind fun y5 =>
    bif !y5.2.1 then
     some (.fin (.ret (v8, c0, c272, ())))
    else
    some (.next (v7, wi64 (v8 + 1), c0, c272, r1120, ()))
   else none
  else none
 else
 some (.fin (.out (c0, c272, ())))
def sound_whole_referred_s0 (x : sound_whole_referred_h0.T) : Option (SRes sound_whole_referred_h0 sound_whole_referred_o0 sound_whole_referred_e0) := sound_whole_referred_s0r x.1 x.2.1 x.2.2.1 x.2.2.2.1 x.2.2.2.2.1
def sound_whole_referred_l0 (x : sound_whole_referred_h0.T) : Option (LRes sound_whole_referred_o0 sound_whole_referred_e0) := iterL sound_whole_referred_s0 9223372036854775808 x
abbrev sound_whole_referred_h1 : U := (.cons cI (.cons (.sl cSpan) (.cons cI (.cons cI (.cons cI (.cons cI (.cons (.cons cHeap .nil) (.cons cSpan .nil))))))))
abbrev sound_whole_referred_o1 : U := (.cons (.sl cSpan) (.cons cI (.cons cI (.cons (.cons cHeap .nil) .nil))))
abbrev sound_whole_referred_e1 : U := (.cons .bool .nil)
def sound_whole_referred_s1r (v5 : Int) (v10 : List Span) (v11 : Int) (v12 : Int) (v19 : Int) (v20 : Int) (c0 : Heap × Unit) (c272 : Span) : Option (SRes sound_whole_referred_h1 sound_whole_referred_o1 sound_whole_referred_e1) :=
 bif decide (v20 < v19) then
  bif c272.1 != 0 then
   (class_Words (c272.2.1, ())).bind fun y2 =>
   (bits_Has (c272.2.2.1, v20, ())).bind fun y3 =>
   bif decide (0 ≤ v5) then
    bif decide (v5 < (c0.1.2.1.length : Int)) then
     bif (c0.1.2.1.getD v5.toNat (0, 0, 0, ())).1 == 1 then
      (object_Refs (c0.1, wi64 ((wi64 (v5 * 32)) + (wi64 (v20 * y2.1))), ())).bind fun y4 =>
      (sound_whole_referred_l0 ((y4.1.length : Int), 0, c0, c272, y4.1, ())).bind fun s6 => match s6 with
      | .out s6 =>
       some (.next (v5, v10, v11, v12, v19, wi64 (v20 + 1), s6.1, s6.2.1, ()))
      | .ret s6 =>
       bif !(!(decide (s6.1 ≥ 0))) then
        some (.fin (.ret (false, ())))
       else
       some (.next (v5, v10, v11, v12, v19, wi64 (v20 + 1), s6.2.1, s6.2.2.1, ()))
     else
     (object_Black (c0.1, wi64 ((wi64 (v5 * 32)) + (wi64 (v20 * y2.1))), ())).bind fun y7 =>
     bif !y7.1 then
      some (.next (v5, v10, v11, v12, v19, wi64 (v20 + 1), c0, c272, ()))
     else
     (object_Refs (c0.1, wi64 ((wi64 (v5 * 32)) + (wi64 (v20 * y2.1))), ())).bind fun y8 =>
     (sound_whole_referred_l0 ((y8.1.length : Int), 0, c0, c272, y8.1, ())).bind fun s9 => match s9 with
     | .out s9 =>
      some (.next (v5, v10, v11, v12, v19, wi64 (v20 + 1), s9.1, s9.2.1, ()))
     | .ret s9 =>
      bif !(!(decide (s9.1 ≥ 0))) then
       some (.fin (.ret (false, ())))
      else
      some (.next (v5, v10, v11, v12, v19, wi64 (v20 + 1), s9.2.1, s9.2.2.1, ()))
    else none
   else none
  else
  some (.next (v5, v10, v11, v12, v19, wi64 (v20 + 1), c0, c272, ()))
 else
 some (.fin (.out (v10, v11, v12, c0, ())))
def sound_whole_referred_s1 (x : sound_whole_referred_h1.T) : Option (SRes sound_whole_referred_h1 sound_whole_referred_o1 sound_whole_referred_e1) := sound_whole_referred_s1r x.1 x.2.1 x.2.2.1 x.2.2.2.1 x.2.2.2.2.1 x.2.2.2.2.2.1 x.2.2.2.2.2.2.1 x.2.2.2.2.2.2.2.1
def sound_whole_referred_l1 (x : sound_whole_referred_h1.T) : Option (LRes sound_whole_referred_o1 sound_whole_referred_e1) := iterL sound_whole_referred_s1 9223372036854775808 x
abbrev sound_whole_referred_h2 : U := (.cons (.sl cSpan) (.cons cI (.cons cI (.cons (.cons cHeap .nil) .nil))))
abbrev sound_whole_referred_o2 : U := .nil
abbrev sound_whole_referred_e2 : U := (.cons .bool .nil)
def sound_whole_referred_s2r (v10 : List Span) (v11 : Int) (v12 : Int) (c0 : Heap × Unit) : Option (SRes sound_whole_referred_h2 sound_whole_referred_o2 sound_whole_referred_e2) :=
 bif decide (v12 < v11) then
  bif decide (0 ≤ v12) then
   bif decide (v12 < (v10.length : Int)) then
    (class_Blocks ((v10.getD v12.toNat (0, 0, 0, ())).2.1, ())).bind fun y1 =>
    (sound_whole_referred_l1 (v12, v10, v11, v12, y1.1, 0, c0, v10.getD v12.toNat (0, 0, 0, ()), ())).bind fun s10 => match s10 with
    | .out s10 =>
     some (.next (s10.1, s10.2.1, wi64 (s10.2.2.1 + 1), s10.2.2.2.1, ()))
    | .ret s10 =>
     some (.fin (.ret (s10.1, ())))
   else none
  else none
 else
 some (.fin (.out ()))
def sound_whole_referred_s2 (x : sound_whole_referred_h2.T) : Option (SRes sound_whole_referred_h2 sound_whole_referred_o2 sound_whole_referred_e2) := sound_whole_referred_s2r x.1 x.2.1 x.2.2.1 x.2.2.2.1
def sound_whole_referred_l2 (x : sound_whole_referred_h2.T) : Option (LRes sound_whole_referred_o2 sound_whole_referred_e2) := iterL sound_whole_referred_s2 9223372036854775808 x
def sound_whole_referred_r (a0 : Heap × Unit) : Option (Bool × Unit) :=
 (sound_whole_referred_l2 (a0.1.2.1, (a0.1.2.1.length : Int), 0, a0, ())).bind fun s11 => match s11 with
 | .out s11 =>
  some (true, ())
 | .ret s11 =>
  some (s11.1, ())
def sound_whole_referred (x : (Heap × Unit) × Unit) : Option (Bool × Unit) := sound_whole_referred_r x.1
def sound_whole_referred_sm : Sum := ⟨(.cons (.cons cHeap .nil) .nil), (.cons (.d .bool) .nil), sound_whole_referred⟩
def sound_whole_referred_L0 : LoopSum := { hc := ⟨[], [0, 1, 7, 8], [], [], [0, 272], [1120], 1376⟩, h := ⟨[(0, (.row 1120)), (1, (.fn 83 .nil (.cons (.pvar 0 []) .nil))), (7, (.d cI)), (8, (.d cI))], [(0, (.d (.cons cHeap .nil))), (272, (.d cSpan))], [(1120, cI, true)], 1376, false⟩, xid := 0, oc := ⟨[], [], [], [], [0, 272], [], 1376⟩, o := ⟨[], [(0, (.d (.cons cHeap .nil))), (272, (.d cSpan))], [], 1376, false⟩, rc := ⟨[], [4], [], [], [0, 272], [], 1376⟩, r := ⟨[(4, (.d cI))], [(0, (.d (.cons cHeap .nil))), (272, (.d cSpan))], [], 1376, false⟩, F := sound_whole_referred_l0 }
def sound_whole_referred_L1 : LoopSum := { hc := ⟨[], [1, 5, 6, 10, 11, 12, 19, 20], [], [], [0, 272], [], 384⟩, h := ⟨[(1, (.fn 81 .nil (.cons (.pvar 0 []) .nil))), (5, (.d cI)), (6, (.pvar 272 [])), (10, (.d (.sl cSpan))), (11, (.d cI)), (12, (.d cI)), (19, (.d cI)), (20, (.d cI))], [(0, (.d (.cons cHeap .nil))), (272, (.d cSpan))], [], 384, false⟩, xid := 2, oc := ⟨[], [1, 10, 11, 12], [], [], [0], [], 384⟩, o := ⟨[(1, (.fn 81 .nil (.cons (.pvar 0 []) .nil))), (10, (.d (.sl cSpan))), (11, (.d cI)), (12, (.d cI))], [(0, (.d (.cons cHeap .nil)))], [], 384, false⟩, rc := ⟨[], [4], [], [], [], [], 384⟩, r := ⟨[(4, (.d .bool))], [], [], 384, false⟩, F := sound_whole_referred_l1 }
def sound_whole_referred_L2 : LoopSum := { hc := ⟨[], [1, 10, 11, 12], [], [], [0], [], 208⟩, h := ⟨[(1, (.fn 81 .nil (.cons (.pvar 0 []) .nil))), (10, (.d (.sl cSpan))), (11, (.d cI)), (12, (.d cI))], [(0, (.d (.cons cHeap .nil)))], [], 208, false⟩, xid := 0, oc := ⟨[], [], [], [], [], [], 208⟩, o := ⟨[], [], [], 208, false⟩, rc := ⟨[], [4], [], [], [], [], 208⟩, r := ⟨[(4, (.d .bool))], [], [], 208, false⟩, F := sound_whole_referred_l2 }
def sound_whole_referred_c : Ctx := ⟨[(48, object_Get_sm), (62, class_Blocks_sm), (63, class_Words_sm), (64, object_Black_sm), (82, object_Refs_sm), (103, bits_Has_sm)], [(75, Tryz.f75), (78, Tryz.f78), (81, Tryz.f81), (83, Tryz.f83), (100, Tryz.f100)], [⟨4, 100, 1312, 0, sound_whole_referred_L0⟩, ⟨7, 78, 96, 2, sound_whole_referred_L1⟩, ⟨7, 78, 96, 0, sound_whole_referred_L2⟩]⟩
theorem sound_whole_referred_sem : SemOf Tryz.prog 55 sound_whole_referred_sm := semC (c := sound_whole_referred_c) Tryz.func55 (sc object_Get_sem (sc class_Blocks_sem (sc class_Words_sem (sc object_Black_sem (sc object_Refs_sem (sc bits_Has_sem an)))))) (fc (flC Tryz.func75) (fc (flC Tryz.func78) (fc (flC Tryz.func81) (fc (flC Tryz.func83) (fc (flC Tryz.func100) an))))) (ec (aeC [true, false, true, false, false] sound_whole_referred_s0 Tryz.func100) (ec (aeC [true, false, true, false, false, true, true, false, false, true, true, false, false] sound_whole_referred_s1 Tryz.func78) (ec (aeC [true, false, true, false, false] sound_whole_referred_s2 Tryz.func78) an))) 8
end
end Go.Proofs.YtdokfjkihjkcmaaGreatDoor.Den
