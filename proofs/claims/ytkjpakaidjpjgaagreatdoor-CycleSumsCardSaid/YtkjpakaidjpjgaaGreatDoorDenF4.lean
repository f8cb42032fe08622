/- What functions come to. Printed by a program of this session. -/
import Derived.Test.YtkjpakaidjpjgaaGreatDoorDenF3
namespace Go.Proofs.YtkjpakaidjpjgaaGreatDoor.Den
open Go
set_option maxRecDepth 100000
set_option linter.unusedVariables false
noncomputable section
abbrev r07_Made_h0 : U := (.cons cI (.cons cI (.cons (.cons .bool .nil) (.cons cHeap (.cons (.cons .bool .nil) (.cons cSpan (.cons (.cons .bool .nil) (.cons (.sl (.int .u64)) (.cons (.sl cSpan) .nil)))))))))
abbrev r07_Made_o0 : U := (.cons (.cons .bool .nil) (.cons cHeap (.cons (.cons .bool .nil) (.cons (.cons .bool .nil) (.cons (.sl (.int .u64)) (.cons (.sl cSpan) .nil))))))
abbrev r07_Made_e0 : U := .nil
def r07_Made_s0r (v1 : Int) (v12 : Int) (c0 : Bool × Unit) (c112 : Heap) (c624 : Bool × Unit) (c1008 : Span) (c1152 : Bool × Unit) (r1136 : List Int) (r1137 : List Span) : Option (SRes r07_Made_h0 r07_Made_o0 r07_Made_e0) :=
 (r04_Words (c1008.2.1, ())).bind fun y7 =>
 bif decide (v12 < y7.1) then
  bif decide (0 ≤ (wi64 (v1 + v12))) then
   bif decide ((wi64 (v1 + v12)) < (r1136.length : Int)) then
    some (.next (v1, wi64 (v12 + 1), c0, c112, c624, c1008, c1152, r1136.set (wi64 (v1 + v12)).toNat 0, r1137, ()))
   else none
  else none
 else
 some (.fin (.out (c0, c112, c624, c1152, r1136, r1137, ())))
def r07_Made_s0 (x : r07_Made_h0.T) : Option (SRes r07_Made_h0 r07_Made_o0 r07_Made_e0) := r07_Made_s0r x.1 x.2.1 x.2.2.1 x.2.2.2.1 x.2.2.2.2.1 x.2.2.2.2.2.1 x.2.2.2.2.2.2.1 x.2.2.2.2.2.2.2.1 x.2.2.2.2.2.2.2.2.1
def r07_Made_l0 (x : r07_Made_h0.T) : Option (LRes r07_Made_o0 r07_Made_e0) := iterL r07_Made_s0 9223372036854775808 x
abbrev r07_Made_h1 : U := (.cons (.sl (.cons cI cVal)) (.cons cI (.cons (.cons .bool .nil) (.cons cHeap .nil))))
abbrev r07_Made_o1 : U := (.cons (.cons .bool .nil) (.cons cHeap .nil))
abbrev r07_Made_e1 : U := .nil
def r07_Made_s1r (v1 : List (Int × Val)) (v6 : Int) (c0 : Bool × Unit) (c112 : Heap) : Option (SRes r07_Made_h1 r07_Made_o1 r07_Made_e1) :=
 bif decide (v6 < (v1.length : Int)) then
  bif decide (0 ≤ v6) then
   bif decide (v6 < (v1.length : Int)) then
    bif (v1.getD v6.toNat (0, 0, 0, ())).1 == 0 then
     (r07_Open (c112, (v1.getD v6.toNat (0, 0, 0, ())).2.1, (v1.getD v6.toNat (0, 0, 0, ())).2.2.1, ())).bind fun y1 =>
     some (.next (v1, wi64 (v6 + 1), c0, y1.1, ()))
    else
    bif (v1.getD v6.toNat (0, 0, 0, ())).1 == 1 then
     (r07_Lay (c112, (v1.getD v6.toNat (0, 0, 0, ())).2.1, (v1.getD v6.toNat (0, 0, 0, ())).2.2.1, ())).bind fun y2 =>
     some (.next (v1, wi64 (v6 + 1), c0, y2.1, ()))
    else
    bif (v1.getD v6.toNat (0, 0, 0, ())).1 == 2 then
     (r07_Lay (c112, (v1.getD v6.toNat (0, 0, 0, ())).2.1, (v1.getD v6.toNat (0, 0, 0, ())).2.2.1, ())).bind fun y3 =>
     some (.next (v1, wi64 (v6 + 1), c0, y3.1, ()))
    else
    bif (v1.getD v6.toNat (0, 0, 0, ())).1 == 3 then
     (r07_Find (c112, (v1.getD v6.toNat (0, 0, 0, ())).2.1, ())).bind fun y4 =>
     bif !y4.2.2.1 then
      some (.next (v1, wi64 (v6 + 1), c0, c112, ()))
     else
     bif decide (0 ≤ y4.1) then
      bif decide (y4.1 < (c112.2.1.length : Int)) then
       (r06_Give (c112.2.1.getD y4.1.toNat (0, 0, 0, ()), y4.2.1, ())).bind fun y5 =>
       bif !y5.2.1 then
        some (.next (v1, wi64 (v6 + 1), c0, c112, ()))
       else
       (r07_with (c112, y4.1, y5.1, ())).bind fun y6 =>
       (r07_Made_l0 ((v1.getD v6.toNat (0, 0, 0, ())).2.1, 0, c0, c112, (false, ()), y5.1, y6.1.2.2, y6.1.1, y6.1.2.1, ())).bind fun s8 => match s8 with
       | .out s8 =>
        some (.next (v1, wi64 (v6 + 1), s8.1, (s8.2.2.2.2.1, s8.2.2.2.2.2.1, s8.2.2.2.1), ()))
       | .ret s8 =>
        none
      else none
     else none
    else
    bif (v1.getD v6.toNat (0, 0, 0, ())).1 == 4 then
     bif decide ((v1.getD v6.toNat (0, 0, 0, ())).2.1 < 0) then
      some (.next (v1, wi64 (v6 + 1), c0, c112, ()))
     else
     bif decide ((v1.getD v6.toNat (0, 0, 0, ())).2.1 ≥ (c112.2.1.length : Int)) then
      some (.next (v1, wi64 (v6 + 1), c0, c112, ()))
     else
     bif decide (0 ≤ (v1.getD v6.toNat (0, 0, 0, ())).2.1) then
      bif decide ((v1.getD v6.toNat (0, 0, 0, ())).2.1 < (c112.2.1.length : Int)) then
       bif (c112.2.1.getD (v1.getD v6.toNat (0, 0, 0, ())).2.1.toNat (0, 0, 0, ())).1 == 0 then
        some (.next (v1, wi64 (v6 + 1), c0, c112, ()))
       else
       bif decide (0 ≤ (v1.getD v6.toNat (0, 0, 0, ())).2.1) then
        bif decide ((v1.getD v6.toNat (0, 0, 0, ())).2.1 < (c112.2.1.length : Int)) then
         (r06_Free (c112.2.1.getD (v1.getD v6.toNat (0, 0, 0, ())).2.1.toNat (0, 0, 0, ()), ())).bind fun y9 =>
         bif decide (0 ≤ (v1.getD v6.toNat (0, 0, 0, ())).2.1) then
          bif decide ((v1.getD v6.toNat (0, 0, 0, ())).2.1 < (c112.2.1.length : Int)) then
           (r04_Blocks ((c112.2.1.getD (v1.getD v6.toNat (0, 0, 0, ())).2.1.toNat (0, 0, 0, ())).2.1, ())).bind fun y10 =>
           bif y9.1 != y10.1 then
            some (.next (v1, wi64 (v6 + 1), c0, c112, ()))
           else
           (r07_with (c112, (v1.getD v6.toNat (0, 0, 0, ())).2.1, (0, 0, 0, ()), ())).bind fun y11 =>
           some (.next (v1, wi64 (v6 + 1), c0, (y11.1.1, y11.1.2.1, y11.1.2.2), ()))
          else none
         else none
        else none
       else none
      else none
     else none
    else
    some (.next (v1, wi64 (v6 + 1), c0, (c112.1, c112.2.1, !c112.2.2.1, c112.2.2.2), ()))
   else none
  else none
 else
 some (.fin (.out (c0, c112, ())))
def r07_Made_s1 (x : r07_Made_h1.T) : Option (SRes r07_Made_h1 r07_Made_o1 r07_Made_e1) := r07_Made_s1r x.1 x.2.1 x.2.2.1 x.2.2.2.1
def r07_Made_l1 (x : r07_Made_h1.T) : Option (LRes r07_Made_o1 r07_Made_e1) := iterL r07_Made_s1 9223372036854775808 x
def r07_Made_r (a0 : Int) (a1 : List (Int × Val)) : Option (Heap × Unit) :=
 bif (wi64 (32 * a0)) == (wi64 (32 * a0)) then
  bif decide (0 ≤ (wi64 (32 * a0))) then
   bif decide ((wi64 (32 * a0)).toNat * 8 ≤ 140737488355328) then
    bif a0 == a0 then
     bif decide (0 ≤ a0) then
      bif decide (a0.toNat * 24 ≤ 140737488355328) then
       (r07_Made_l1 (a1, 0, (false, ()), (List.replicate (wi64 (32 * a0)).toNat (0 : Int), List.replicate a0.toNat ((0, 0, 0, ()) : Span), false, ()), ())).bind fun s12 => match s12 with
       | .out s12 =>
        some (s12.2.1, ())
       | .ret s12 =>
        none
      else none
     else none
    else none
   else none
  else none
 else none
def r07_Made (x : Int × (List (Int × Val)) × Unit) : Option (Heap × Unit) := r07_Made_r x.1 x.2.1
def r07_Made_sm : Sum := ⟨(.cons cI (.cons (.sl (.cons cI cVal)) .nil)), (.cons (.d cHeap) .nil), r07_Made⟩
def r07_Made_L0 : LoopSum := { hc := ⟨[], [1, 4, 9, 11, 12], [], [], [0, 112, 624, 1008, 1152], [1136, 1137], 1200⟩, h := ⟨[(1, (.d cI)), (4, (.pvar 624 [])), (9, (.pvar 1008 [])), (11, (.pvar 1152 [])), (12, (.d cI))], [(0, (.cons .nilsl (.cons .nilsl (.d (.cons .bool .nil))))), (112, (.d cHeap)), (624, (.cons .nilsl (.cons .nilsl (.d (.cons .bool .nil))))), (1008, (.d cSpan)), (1152, (.cons (.row 1136) (.cons (.row 1137) (.d (.cons .bool .nil)))))], [(1136, (.int .u64), true), (1137, cSpan, true)], 1200⟩, xid := 0, oc := ⟨[], [4, 11], [], [], [0, 112, 624, 1152], [1136, 1137], 1200⟩, o := ⟨[(4, (.pvar 624 [])), (11, (.pvar 1152 []))], [(0, (.cons .nilsl (.cons .nilsl (.d (.cons .bool .nil))))), (112, (.d cHeap)), (624, (.cons .nilsl (.cons .nilsl (.d (.cons .bool .nil))))), (1152, (.cons (.row 1136) (.cons (.row 1137) (.d (.cons .bool .nil)))))], [(1136, (.int .u64), true), (1137, cSpan, true)], 1200⟩, rc := ⟨[], [], [], [], [1200], [], 1200⟩, r := ⟨[], [], [], 1200⟩, F := r07_Made_l0 }
def r07_Made_L1 : LoopSum := { hc := ⟨[(.key 112 [], cHeap)], [1, 4, 5, 6], [], [], [0, 112], [], 160⟩, h := ⟨[(1, (.d (.sl (.cons cI cVal)))), (4, (.pvar 0 [])), (5, (.pvar 112 [])), (6, (.d cI))], [(0, (.cons .nilsl (.cons .nilsl (.d (.cons .bool .nil))))), (112, (.d cHeap))], [], 160⟩, xid := 0, oc := ⟨[], [4, 5], [], [], [0, 112], [], 160⟩, o := ⟨[(4, (.pvar 0 [])), (5, (.pvar 112 []))], [(0, (.cons .nilsl (.cons .nilsl (.d (.cons .bool .nil))))), (112, (.d cHeap))], [], 160⟩, rc := ⟨[], [], [], [], [160], [], 160⟩, r := ⟨[], [], [], 160⟩, F := r07_Made_l1 }
def r07_Made_c : Ctx := ⟨[(82, r04_Words_sm), (83, r04_Blocks_sm), (91, r06_Free_sm), (115, r07_Open_sm), (116, r07_Lay_sm), (141, r07_Find_sm), (191, r07_with_sm), (236, r06_Give_sm)], [(169, Tryz.f169), (170, Tryz.f170)], [⟨7, 169, 608, 0, r07_Made_L0⟩, ⟨8, 94, 0, 0, r07_Made_L1⟩]⟩
theorem r07_Made_sem : SemOf Tryz.prog 94 r07_Made_sm := semC (c := r07_Made_c) Tryz.func94 (sc r04_Words_sem (sc r04_Blocks_sem (sc r06_Free_sem (sc r07_Open_sem (sc r07_Lay_sem (sc r07_Find_sem (sc r07_with_sem (sc r06_Give_sem an)))))))) (fc (flC Tryz.func169) (fc (flC Tryz.func170) an)) (ec (aeC [true, true, true, true, true, true, false, true, false, false] r07_Made_s0 Tryz.func169) (ec (aeC [true, true, false, true, false, false] r07_Made_s1 Tryz.func94) an)) 8
def w20_small_r  : Option (Wrld × Unit) :=
 (r07_Made (1, [], ())).bind fun y1 =>
 some (((1, 1, 2, 1, 0, ()), y1.1, [([], 0, (0, 0, 0, 0, ()), 0, (0, 0, ()), ([(-1), (-1), (-1), (-1)] : List Int), ())], ((0, [], ()), [], [], 0, 0, 0, false, ()), 0, true, 0, [], ()), ())
def w20_small (x : Unit) : Option (Wrld × Unit) := w20_small_r 
def w20_small_sm : Sum := ⟨.nil, (.cons (.cons (.cons (.d cI) (.cons (.d cI) (.cons (.d cI) (.cons (.d cI) (.cons (.d cI) .nil))))) (.cons (.d cHeap) (.cons (.own cMut) (.cons (.cons (.cons (.d cI) (.cons (.own cI) .nil)) (.cons (.own cGrey) (.cons (.own cVal) (.cons (.d cI) (.cons (.d cI) (.cons (.d cI) (.cons (.d .bool) .nil))))))) (.cons (.d cI) (.cons (.d .bool) (.cons (.d cI) (.cons (.own cRep) .nil)))))))) .nil), w20_small⟩
def w20_small_c : Ctx := ⟨[(94, r07_Made_sm)], [], []⟩
theorem w20_small_sem : SemOf Tryz.prog 72 w20_small_sm := semC (c := w20_small_c) Tryz.func72 (sc r07_Made_sem an) an an 8
def cycle_within_r (a0 : Int) (a1 : Int) (a2 : Int) : Option (Bool × Unit) :=
 bif decide (a0 ≥ a1) then
  some (decide (a0 ≤ a2), ())
 else
 some (false, ())
def cycle_within (x : Int × Val) : Option (Bool × Unit) := cycle_within_r x.1 x.2.1 x.2.2.1
def cycle_within_sm : Sum := ⟨(.cons cI cVal), (.cons (.d .bool) .nil), cycle_within⟩
def cycle_within_c : Ctx := ⟨[], [], []⟩
theorem cycle_within_sem : SemOf Tryz.prog 144 cycle_within_sm := semC (c := cycle_within_c) Tryz.func144 an an an 8
def cycle_May_r (a0 : Rep) : Option (Bool × Unit) :=
 (cycle_within (a0.1, 1, 16, ())).bind fun y1 =>
 bif y1.1 then
  (cycle_within (a0.2.1, 1, 8, ())).bind fun y2 =>
  bif y2.1 then
   (cycle_within (a0.2.2.1, 1, 8, ())).bind fun y3 =>
   bif y3.1 then
    (cycle_within (a0.2.2.2.1, 0, 16, ())).bind fun y4 =>
    bif y4.1 then
     (cycle_within (a0.2.2.2.2.1, 0, 8, ())).bind fun y5 =>
     some (y5.1, ())
    else
    some (false, ())
   else
   some (false, ())
  else
  some (false, ())
 else
 some (false, ())
def cycle_May (x : Rep × Unit) : Option (Bool × Unit) := cycle_May_r x.1
def cycle_May_sm : Sum := ⟨(.cons cRep .nil), (.cons (.d .bool) .nil), cycle_May⟩
def cycle_May_c : Ctx := ⟨[(144, cycle_within_sm)], [], []⟩
theorem cycle_May_sem : SemOf Tryz.prog 74 cycle_May_sm := semC (c := cycle_May_c) Tryz.func74 (sc cycle_within_sem an) an an 8
def span_Right_r (a0 : Span) : Option (Bool × Unit) :=
 bif a0.1 == 0 then
  some ((a0.1 == 0) && ((a0.2.1 == 0) && ((a0.2.2.1 == 0) && true)), ())
 else
 (span_inUse (a0, ())).bind fun y1 =>
 bif y1.1 then
  (class_Blocks (a0.2.1, ())).bind fun y2 =>
  bif decide (y2.1 > 0) then
   (span_whole (a0.2.1, ())).bind fun y3 =>
   some ((bitsI .andNot .u32 a0.2.2.1 y3.1) == 0, ())
  else
  some (false, ())
 else
 some (false, ())
def span_Right (x : Span × Unit) : Option (Bool × Unit) := span_Right_r x.1
def span_Right_sm : Sum := ⟨(.cons cSpan .nil), (.cons (.d .bool) .nil), span_Right⟩
def span_Right_c : Ctx := ⟨[(164, class_Blocks_sm), (220, span_inUse_sm), (232, span_whole_sm)], [], []⟩
theorem span_Right_sem : SemOf Tryz.prog 211 span_Right_sm := semC (c := span_Right_c) Tryz.func211 (sc class_Blocks_sem (sc span_inUse_sem (sc span_whole_sem an))) an an 8
def heap_Form_1_r (a0 : Span) : Option (Bool × Unit) :=
 (span_Right (a0, ())).bind fun y1 =>
 some (!y1.1, ())
def heap_Form_1 (x : Span × Unit) : Option (Bool × Unit) := heap_Form_1_r x.1
def heap_Form_1_sm : Sum := ⟨(.cons cSpan .nil), (.cons (.d .bool) .nil), heap_Form_1⟩
def heap_Form_1_c : Ctx := ⟨[(211, span_Right_sm)], [], []⟩
theorem heap_Form_1_sem : SemOf Tryz.prog 210 heap_Form_1_sm := semC (c := heap_Form_1_c) Tryz.func210 (sc span_Right_sem an) an an 8
abbrev heap_Form_h0 : U := (.cons (.sl cSpan) (.cons cI (.cons cI (.cons cHeap .nil))))
abbrev heap_Form_o0 : U := (.cons cHeap .nil)
abbrev heap_Form_e0 : U := (.cons cI (.cons cHeap .nil))
def heap_Form_s0r (v0 : List Span) (v7 : Int) (v8 : Int) (c0 : Heap) : Option (SRes heap_Form_h0 heap_Form_o0 heap_Form_e0) :=
 bif decide (v8 < v7) then
  bif decide (0 ≤ v8) then
   bif decide (v8 < (v0.length : Int)) then
    (heap_Form_1 (v0.getD v8.toNat (0, 0, 0, ()), ())).bind fun y1 =>
    bif y1.1 then
     some (.fin (.ret (v8, c0, ())))
    else
    some (.next (v0, v7, wi64 (v8 + 1), c0, ()))
   else none
  else none
 else
 some (.fin (.out (c0, ())))
def heap_Form_s0 (x : heap_Form_h0.T) : Option (SRes heap_Form_h0 heap_Form_o0 heap_Form_e0) := heap_Form_s0r x.1 x.2.1 x.2.2.1 x.2.2.2.1
def heap_Form_l0 (x : heap_Form_h0.T) : Option (LRes heap_Form_o0 heap_Form_e0) := iterL heap_Form_s0 9223372036854775808 x
def heap_Form_r (a0 : Heap) : Option (Bool × Unit) :=
 (heap_Form_l0 (a0.2.1, (a0.2.1.length : Int), 0, a0, ())).bind fun s2 => match s2 with
 | .out s2 =>
  bif decide ((s2.1.2.1.length : Int) ≥ 1) then
   bif decide ((s2.1.2.1.length : Int) ≤ 16) then
    some ((s2.1.1.length : Int) == (wi64 (32 * (s2.1.2.1.length : Int))), ())
   else
   some (false, ())
  else
  some (false, ())
 | .ret s2 =>
  bif !(decide (s2.1 ≥ 0)) then
   bif decide ((s2.2.1.2.1.length : Int) ≥ 1) then
    bif decide ((s2.2.1.2.1.length : Int) ≤ 16) then
     some ((s2.2.1.1.length : Int) == (wi64 (32 * (s2.2.1.2.1.length : Int))), ())
    else
    some (false, ())
   else
   some (false, ())
  else
  some (false, ())
def heap_Form (x : Heap × Unit) : Option (Bool × Unit) := heap_Form_r x.1
def heap_Form_sm : Sum := ⟨(.cons cHeap .nil), (.cons (.d .bool) .nil), heap_Form⟩
def heap_Form_L0 : LoopSum := { hc := ⟨[], [0, 1, 7, 8], [], [], [0], [], 256⟩, h := ⟨[(0, (.d (.sl cSpan))), (1, (.fn 210 .nil .nil)), (7, (.d cI)), (8, (.d cI))], [(0, (.d cHeap))], [], 256⟩, xid := 0, oc := ⟨[], [], [], [], [0], [], 256⟩, o := ⟨[], [(0, (.d cHeap))], [], 256⟩, rc := ⟨[], [4], [], [], [0], [], 256⟩, r := ⟨[(4, (.d cI))], [(0, (.d cHeap))], [], 256⟩, F := heap_Form_l0 }
def heap_Form_c : Ctx := ⟨[(210, heap_Form_1_sm)], [(160, Tryz.f160), (209, Tryz.f209)], [⟨6, 160, 192, 0, heap_Form_L0⟩]⟩
theorem heap_Form_sem : SemOf Tryz.prog 143 heap_Form_sm := semC (c := heap_Form_c) Tryz.func143 (sc heap_Form_1_sem an) (fc (flC Tryz.func160) (fc (flC Tryz.func209) an)) (ec (aeC [true, false, true, false, false] heap_Form_s0 Tryz.func160) an) 8
abbrev take_Right_h0 : U := (.cons (.sl (.arr 4 cI)) (.cons cI (.cons cI (.cons (.arr 4 cI) (.cons cI (.cons cHeap (.cons (.sl cI) .nil)))))))
abbrev take_Right_o0 : U := (.cons (.sl (.arr 4 cI)) (.cons cI (.cons cI (.cons cHeap (.cons (.sl cI) .nil)))))
abbrev take_Right_e0 : U := (.cons .bool .nil)
def take_Right_s0r (v10 : List (List Int)) (v11 : Int) (v12 : Int) (v16 : List Int) (v17 : Int) (c0 : Heap) (r209 : List Int) : Option (SRes take_Right_h0 take_Right_o0 take_Right_e0) :=
 bif decide (v17 < 4) then
  bif decide (0 ≤ v17) then
   bif decide (v17 < 4) then
    bif (v16.getD v17.toNat 0) == (-1) then
     some (.next (v10, v11, v12, v16, wi64 (v17 + 1), c0, r209, ()))
    else
    bif decide ((v16.getD v17.toNat 0) < 0) then
     some (.fin (.ret (false, ())))
    else
    bif decide ((v16.getD v17.toNat 0) ≥ (c0.2.1.length : Int)) then
     some (.fin (.ret (false, ())))
    else
    bif decide (0 ≤ (v16.getD v17.toNat 0)) then
     bif decide ((v16.getD v17.toNat 0) < (c0.2.1.length : Int)) then
      bif (c0.2.1.getD (v16.getD v17.toNat 0).toNat (0, 0, 0, ())).1 == 0 then
       some (.fin (.ret (false, ())))
      else
      bif decide (0 ≤ (v16.getD v17.toNat 0)) then
       bif decide ((v16.getD v17.toNat 0) < (c0.2.1.length : Int)) then
        bif (c0.2.1.getD (v16.getD v17.toNat 0).toNat (0, 0, 0, ())).2.1 != v17 then
         some (.fin (.ret (false, ())))
        else
        (slices_Contains (r209, v16.getD v17.toNat 0, ())).bind fun y1 =>
        bif y1.1 then
         some (.fin (.ret (false, ())))
        else
        bif decide ((r209.length + 1) * 8 ≤ 140737488355328) then
         some (.next (v10, v11, v12, v16, wi64 (v17 + 1), c0, r209 ++ [v16.getD v17.toNat 0], ()))
        else none
       else none
      else none
     else none
    else none
   else none
  else none
 else
 some (.fin (.out (v10, v11, v12, c0, r209, ())))
def take_Right_s0 (x : take_Right_h0.T) : Option (SRes take_Right_h0 take_Right_o0 take_Right_e0) := take_Right_s0r x.1 x.2.1 x.2.2.1 x.2.2.2.1 x.2.2.2.2.1 x.2.2.2.2.2.1 x.2.2.2.2.2.2.1
def take_Right_l0 (x : take_Right_h0.T) : Option (LRes take_Right_o0 take_Right_e0) := iterL take_Right_s0 9223372036854775808 x
abbrev take_Right_h1 : U := (.cons (.sl (.arr 4 cI)) (.cons cI (.cons cI (.cons cHeap (.cons (.sl cI) .nil)))))
abbrev take_Right_o1 : U := .nil
abbrev take_Right_e1 : U := (.cons .bool .nil)
def take_Right_s1r (v10 : List (List Int)) (v11 : Int) (v12 : Int) (c0 : Heap) (r96 : List Int) : Option (SRes take_Right_h1 take_Right_o1 take_Right_e1) :=
 bif decide (v12 < v11) then
  bif decide (0 ≤ v12) then
   bif decide (v12 < (v10.length : Int)) then
    (take_Right_l0 (v10, v11, v12, v10.getD v12.toNat (List.replicate 4 0), 0, c0, r96, ())).bind fun s2 => match s2 with
    | .out s2 =>
     some (.next (s2.1, s2.2.1, wi64 (s2.2.2.1 + 1), s2.2.2.2.1, s2.2.2.2.2.1, ()))
    | .ret s2 =>
     some (.fin (.ret (s2.1, ())))
   else none
  else none
 else
 some (.fin (.out ()))
def take_Right_s1 (x : take_Right_h1.T) : Option (SRes take_Right_h1 take_Right_o1 take_Right_e1) := take_Right_s1r x.1 x.2.1 x.2.2.1 x.2.2.2.1 x.2.2.2.2.1
def take_Right_l1 (x : take_Right_h1.T) : Option (LRes take_Right_o1 take_Right_e1) := iterL take_Right_s1 9223372036854775808 x
def take_Right_r (a0 : Heap) (a1 : List (List Int)) : Option (Bool × Unit) :=
 (take_Right_l1 (a1, (a1.length : Int), 0, a0, [], ())).bind fun s3 => match s3 with
 | .out s3 =>
  some (true, ())
 | .ret s3 =>
  some (s3.1, ())
def take_Right (x : Heap × (List (List Int)) × Unit) : Option (Bool × Unit) := take_Right_r x.1 x.2.1
def take_Right_sm : Sum := ⟨(.cons cHeap (.cons (.sl (.arr 4 cI)) .nil)), (.cons (.d .bool) .nil), take_Right⟩
def take_Right_L0 : LoopSum := { hc := ⟨[], [2, 5, 10, 11, 12, 16, 17], [(.tmp 5, cI)], [], [0], [], 209⟩, h := ⟨[(2, (.pvar 0 [])), (5, (.row 209)), (10, (.d (.sl (.arr 4 cI)))), (11, (.d cI)), (12, (.d cI)), (16, (.d (.arr 4 cI))), (17, (.d cI))], [(0, (.d cHeap))], [(209, cI, true)], 210⟩, xid := 2, oc := ⟨[], [2, 5, 10, 11, 12], [(.tmp 5, cI)], [], [0], [], 209⟩, o := ⟨[(2, (.pvar 0 [])), (5, (.row 209)), (10, (.d (.sl (.arr 4 cI)))), (11, (.d cI)), (12, (.d cI))], [(0, (.d cHeap))], [(209, cI, true)], 210⟩, rc := ⟨[], [4], [], [], [], [], 209⟩, r := ⟨[(4, (.d .bool))], [], [], 209⟩, F := take_Right_l0 }
def take_Right_L1 : LoopSum := { hc := ⟨[], [2, 5, 10, 11, 12], [(.tmp 5, cI)], [], [0], [], 96⟩, h := ⟨[(2, (.pvar 0 [])), (5, (.row 96)), (10, (.d (.sl (.arr 4 cI)))), (11, (.d cI)), (12, (.d cI))], [(0, (.d cHeap))], [(96, cI, true)], 97⟩, xid := 0, oc := ⟨[], [], [], [], [], [], 96⟩, o := ⟨[], [], [], 96⟩, rc := ⟨[], [4], [], [], [], [], 96⟩, r := ⟨[(4, (.d .bool))], [], [], 96⟩, F := take_Right_l1 }
def take_Right_c : Ctx := ⟨[(212, slices_Contains_sm)], [], [⟨8, 146, 0, 2, take_Right_L0⟩, ⟨8, 146, 0, 0, take_Right_L1⟩]⟩
theorem take_Right_sem : SemOf Tryz.prog 146 take_Right_sm := semC (c := take_Right_c) Tryz.func146 (sc slices_Contains_sem an) an (ec (aeC [true, true, false, true, false, false, true, true, false, false, true, true, false, false] take_Right_s0 Tryz.func146) (ec (aeC [true, true, false, true, false, false] take_Right_s1 Tryz.func146) an)) 8
def grey_Right_1_r (a0 : Int) : Option (Bool × Unit) :=
 some (decide (a0 < 0), ())
def grey_Right_1 (x : Int × Unit) : Option (Bool × Unit) := grey_Right_1_r x.1
def grey_Right_1_sm : Sum := ⟨(.cons cI .nil), (.cons (.d .bool) .nil), grey_Right_1⟩
def grey_Right_1_c : Ctx := ⟨[], [], []⟩
theorem grey_Right_1_sem : SemOf Tryz.prog 271 grey_Right_1_sm := semC (c := grey_Right_1_c) Tryz.func271 an an an 8
abbrev grey_Right_h0 : U := (.cons (.sl cI) (.cons cI (.cons cI (.cons cGrey .nil))))
abbrev grey_Right_o0 : U := (.cons cGrey .nil)
abbrev grey_Right_e0 : U := (.cons cI (.cons cGrey .nil))
def grey_Right_s0r (v0 : List Int) (v7 : Int) (v8 : Int) (c0 : Grey) : Option (SRes grey_Right_h0 grey_Right_o0 grey_Right_e0) :=
 bif decide (v8 < v7) then
  bif decide (0 ≤ v8) then
   bif decide (v8 < (v0.length : Int)) then
    (grey_Right_1 (v0.getD v8.toNat 0, ())).bind fun y1 =>
    bif y1.1 then
     some (.fin (.ret (v8, c0, ())))
    else
    some (.next (v0, v7, wi64 (v8 + 1), c0, ()))
   else none
  else none
 else
 some (.fin (.out (c0, ())))
def grey_Right_s0 (x : grey_Right_h0.T) : Option (SRes grey_Right_h0 grey_Right_o0 grey_Right_e0) := grey_Right_s0r x.1 x.2.1 x.2.2.1 x.2.2.2.1
def grey_Right_l0 (x : grey_Right_h0.T) : Option (LRes grey_Right_o0 grey_Right_e0) := iterL grey_Right_s0 9223372036854775808 x
def grey_Right_r (a0 : Grey) : Option (Bool × Unit) :=
 (grey_Right_l0 (a0.2.1, (a0.2.1.length : Int), 0, a0, ())).bind fun s2 => match s2 with
 | .out s2 =>
  bif decide (s2.1.1 ≥ 0) then
   bif decide (s2.1.1 ≤ 16) then
    bif decide ((s2.1.2.1.length : Int) ≤ s2.1.1) then
     some (true, ())
    else
    some (false, ())
   else
   some (false, ())
  else
  some (false, ())
 | .ret s2 =>
  bif decide (s2.2.1.1 ≥ 0) then
   bif decide (s2.2.1.1 ≤ 16) then
    bif decide ((s2.2.1.2.1.length : Int) ≤ s2.2.1.1) then
     some (!(decide (s2.1 ≥ 0)), ())
    else
    some (false, ())
   else
   some (false, ())
  else
  some (false, ())
def grey_Right (x : Grey × Unit) : Option (Bool × Unit) := grey_Right_r x.1
def grey_Right_sm : Sum := ⟨(.cons cGrey .nil), (.cons (.d .bool) .nil), grey_Right⟩
def grey_Right_L0 : LoopSum := { hc := ⟨[], [0, 1, 7, 8], [], [], [0], [], 256⟩, h := ⟨[(0, (.d (.sl cI))), (1, (.fn 271 .nil .nil)), (7, (.d cI)), (8, (.d cI))], [(0, (.d cGrey))], [], 256⟩, xid := 0, oc := ⟨[], [], [], [], [0], [], 256⟩, o := ⟨[], [(0, (.d cGrey))], [], 256⟩, rc := ⟨[], [4], [], [], [0], [], 256⟩, r := ⟨[(4, (.d cI))], [(0, (.d cGrey))], [], 256⟩, F := grey_Right_l0 }
def grey_Right_c : Ctx := ⟨[(271, grey_Right_1_sm)], [(127, Tryz.f127), (200, Tryz.f200)], [⟨6, 200, 192, 0, grey_Right_L0⟩]⟩
theorem grey_Right_sem : SemOf Tryz.prog 215 grey_Right_sm := semC (c := grey_Right_c) Tryz.func215 (sc grey_Right_1_sem an) (fc (flC Tryz.func127) (fc (flC Tryz.func200) an)) (ec (aeC [true, false, true, false, false] grey_Right_s0 Tryz.func200) an) 8
def mark_Right_1_r (a0 : Grey) : Option (Bool × Unit) :=
 (grey_Right (a0, ())).bind fun y1 =>
 some (!y1.1, ())
def mark_Right_1 (x : Grey × Unit) : Option (Bool × Unit) := mark_Right_1_r x.1
def mark_Right_1_sm : Sum := ⟨(.cons cGrey .nil), (.cons (.d .bool) .nil), mark_Right_1⟩
def mark_Right_1_c : Ctx := ⟨[(215, grey_Right_sm)], [], []⟩
theorem mark_Right_1_sem : SemOf Tryz.prog 214 mark_Right_1_sm := semC (c := mark_Right_1_c) Tryz.func214 (sc grey_Right_sem an) an an 8
abbrev mark_Right_h0 : U := (.cons (.sl cGrey) (.cons cI (.cons cI (.cons cHeap (.cons cMarker .nil)))))
abbrev mark_Right_o0 : U := (.cons cHeap (.cons cMarker .nil))
abbrev mark_Right_e0 : U := (.cons cI (.cons cHeap (.cons cMarker .nil)))
def mark_Right_s0r (v0 : List Grey) (v7 : Int) (v8 : Int) (c0 : Heap) (c16 : Marker) : Option (SRes mark_Right_h0 mark_Right_o0 mark_Right_e0) :=
 bif decide (v8 < v7) then
  bif decide (0 ≤ v8) then
   bif decide (v8 < (v0.length : Int)) then
    (mark_Right_1 (v0.getD v8.toNat (0, [], ()), ())).bind fun y2 =>
    bif y2.1 then
     some (.fin (.ret (v8, c0, c16, ())))
    else
    some (.next (v0, v7, wi64 (v8 + 1), c0, c16, ()))
   else none
  else none
 else
 some (.fin (.out (c0, c16, ())))
def mark_Right_s0 (x : mark_Right_h0.T) : Option (SRes mark_Right_h0 mark_Right_o0 mark_Right_e0) := mark_Right_s0r x.1 x.2.1 x.2.2.1 x.2.2.2.1 x.2.2.2.2.1
def mark_Right_l0 (x : mark_Right_h0.T) : Option (LRes mark_Right_o0 mark_Right_e0) := iterL mark_Right_s0 9223372036854775808 x
def mark_Right_r (a0 : Heap) (a1 : Marker) : Option (Bool × Unit) :=
 (object_Get (a0, a1.2.2.2.1, ())).bind fun y1 =>
 bif a1.2.2.2.1 == (-1) then
  bif a1.2.2.2.2.1 == 0 then
   (mark_Right_l0 (a1.2.1, (a1.2.1.length : Int), 0, a0, a1, ())).bind fun s3 => match s3 with
   | .out s3 =>
    (grey_Right (s3.2.1.1, ())).bind fun y4 =>
    bif y4.1 then
     bif decide (s3.2.1.2.2.2.2.2.1 ≥ (-1)) then
      some (decide (s3.2.1.2.2.2.2.2.1 ≤ (s3.1.1.length : Int)), ())
     else
     some (false, ())
    else
    some (false, ())
   | .ret s3 =>
    bif !(decide (s3.1 ≥ 0)) then
     (grey_Right (s3.2.2.1.1, ())).bind fun y5 =>
     bif y5.1 then
      bif decide (s3.2.2.1.2.2.2.2.2.1 ≥ (-1)) then
       some (decide (s3.2.2.1.2.2.2.2.2.1 ≤ (s3.2.1.1.length : Int)), ())
      else
      some (false, ())
     else
     some (false, ())
    else
    some (false, ())
  else
  bif y1.2.1 then
   bif decide (a1.2.2.2.2.1 ≥ 0) then
    (mark_Right_l0 (a1.2.1, (a1.2.1.length : Int), 0, a0, a1, ())).bind fun s6 => match s6 with
    | .out s6 =>
     bif decide (a1.2.2.2.2.1 < y1.1.2.2.2.1) then
      (grey_Right (s6.2.1.1, ())).bind fun y7 =>
      bif y7.1 then
       bif decide (s6.2.1.2.2.2.2.2.1 ≥ (-1)) then
        some (decide (s6.2.1.2.2.2.2.2.1 ≤ (s6.1.1.length : Int)), ())
       else
       some (false, ())
      else
      some (false, ())
     else
     some (false, ())
    | .ret s6 =>
     bif decide (a1.2.2.2.2.1 < y1.1.2.2.2.1) then
      bif !(decide (s6.1 ≥ 0)) then
       (grey_Right (s6.2.2.1.1, ())).bind fun y8 =>
       bif y8.1 then
        bif decide (s6.2.2.1.2.2.2.2.2.1 ≥ (-1)) then
         some (decide (s6.2.2.1.2.2.2.2.2.1 ≤ (s6.2.1.1.length : Int)), ())
        else
        some (false, ())
       else
       some (false, ())
      else
      some (false, ())
     else
     some (false, ())
   else
   (mark_Right_l0 (a1.2.1, (a1.2.1.length : Int), 0, a0, a1, ())).bind fun s9 => match s9 with
   | .out s9 =>
    some (false, ())
   | .ret s9 =>
    some (false, ())
  else
  (mark_Right_l0 (a1.2.1, (a1.2.1.length : Int), 0, a0, a1, ())).bind fun s10 => match s10 with
  | .out s10 =>
   some (false, ())
  | .ret s10 =>
   some (false, ())
 else
 bif y1.2.1 then
  bif decide (a1.2.2.2.2.1 ≥ 0) then
   (mark_Right_l0 (a1.2.1, (a1.2.1.length : Int), 0, a0, a1, ())).bind fun s11 => match s11 with
   | .out s11 =>
    bif decide (a1.2.2.2.2.1 < y1.1.2.2.2.1) then
     (grey_Right (s11.2.1.1, ())).bind fun y12 =>
     bif y12.1 then
      bif decide (s11.2.1.2.2.2.2.2.1 ≥ (-1)) then
       some (decide (s11.2.1.2.2.2.2.2.1 ≤ (s11.1.1.length : Int)), ())
      else
      some (false, ())
     else
     some (false, ())
    else
    some (false, ())
   | .ret s11 =>
    bif decide (a1.2.2.2.2.1 < y1.1.2.2.2.1) then
     bif !(decide (s11.1 ≥ 0)) then
      (grey_Right (s11.2.2.1.1, ())).bind fun y13 =>
      bif y13.1 then
       bif decide (s11.2.2.1.2.2.2.2.2.1 ≥ (-1)) then
        some (decide (s11.2.2.1.2.2.2.2.2.1 ≤ (s11.2.1.1.length : Int)), ())
       else
       some (false, ())
      else
      some (false, ())
     else
     some (false, ())
    else
    some (false, ())
  else
  (mark_Right_l0 (a1.2.1, (a1.2.1.length : Int), 0, a0, a1, ())).bind fun s14 => match s14 with
  | .out s14 =>
   some (false, ())
  | .ret s14 =>
   some (false, ())
 else
 (mark_Right_l0 (a1.2.1, (a1.2.1.length : Int), 0, a0, a1, ())).bind fun s15 => match s15 with
 | .out s15 =>
  some (false, ())
 | .ret s15 =>
  some (false, ())
def mark_Right (x : Heap × Marker × Unit) : Option (Bool × Unit) := mark_Right_r x.1 x.2.1
def mark_Right_sm : Sum := ⟨(.cons cHeap (.cons cMarker .nil)), (.cons (.d .bool) .nil), mark_Right⟩
def mark_Right_L0 : LoopSum := { hc := ⟨[], [0, 1, 7, 8], [], [], [0, 16], [], 816⟩, h := ⟨[(0, (.d (.sl cGrey))), (1, (.fn 214 .nil .nil)), (7, (.d cI)), (8, (.d cI))], [(0, (.d cHeap)), (16, (.d cMarker))], [], 816⟩, xid := 0, oc := ⟨[], [], [], [], [0, 16], [], 816⟩, o := ⟨[], [(0, (.d cHeap)), (16, (.d cMarker))], [], 816⟩, rc := ⟨[], [4], [], [], [0, 16], [], 816⟩, r := ⟨[(4, (.d cI))], [(0, (.d cHeap)), (16, (.d cMarker))], [], 816⟩, F := mark_Right_l0 }
def mark_Right_c : Ctx := ⟨[(130, object_Get_sm), (214, mark_Right_1_sm), (215, grey_Right_sm)], [(213, Tryz.f213), (270, Tryz.f270)], [⟨6, 270, 752, 0, mark_Right_L0⟩]⟩
theorem mark_Right_sem : SemOf Tryz.prog 147 mark_Right_sm := semC (c := mark_Right_c) Tryz.func147 (sc object_Get_sem (sc mark_Right_1_sem (sc grey_Right_sem an))) (fc (flC Tryz.func213) (fc (flC Tryz.func270) an)) (ec (aeC [true, false, true, false, false] mark_Right_s0 Tryz.func270) an) 8
abbrev cycle_Form_h0 : U := (.cons (.sl cMut) (.cons cI (.cons cI (.cons cWrld .nil))))
abbrev cycle_Form_o0 : U := (.cons cWrld .nil)
abbrev cycle_Form_e0 : U := (.cons cI (.cons cWrld .nil))
def cycle_Form_s0r (v0 : List Mut) (v7 : Int) (v8 : Int) (c0 : Wrld) : Option (SRes cycle_Form_h0 cycle_Form_o0 cycle_Form_e0) :=
 bif decide (v8 < v7) then
  bif decide (0 ≤ v8) then
   bif decide (v8 < (v0.length : Int)) then
    bif decide (((v0.getD v8.toNat ([], 0, (0, 0, 0, 0, ()), 0, (0, 0, ()), List.replicate 4 0, ())).1.length : Int) > c0.1.2.2.1) then
     some (.fin (.ret (v8, c0, ())))
    else
    some (.next (v0, v7, wi64 (v8 + 1), c0, ()))
   else none
  else none
 else
 some (.fin (.out (c0, ())))
def cycle_Form_s0 (x : cycle_Form_h0.T) : Option (SRes cycle_Form_h0 cycle_Form_o0 cycle_Form_e0) := cycle_Form_s0r x.1 x.2.1 x.2.2.1 x.2.2.2.1
def cycle_Form_l0 (x : cycle_Form_h0.T) : Option (LRes cycle_Form_o0 cycle_Form_e0) := iterL cycle_Form_s0 9223372036854775808 x
def cycle_Form_r (a0 : Wrld) : Option (Bool × Unit) :=
 (cycle_May (a0.1, ())).bind fun y1 =>
 bif !y1.1 then
  some (false, ())
 else
 (heap_Form (a0.2.1, ())).bind fun y2 =>
 bif !y2.1 then
  some (false, ())
 else
 bif (a0.2.1.2.1.length : Int) != a0.1.1 then
  some (false, ())
 else
 bif (a0.2.2.1.length : Int) != a0.1.2.1 then
  some (false, ())
 else
 (cycle_within (a0.2.2.2.2.1, 0, 2, ())).bind fun y3 =>
 bif !y3.1 then
  some (false, ())
 else
 (cycle_Form_l0 (a0.2.2.1, (a0.2.2.1.length : Int), 0, a0, ())).bind fun s4 => match s4 with
 | .out s4 =>
  (cycle_Caches (s4.1, ())).bind fun y5 =>
  (take_Right (s4.1.2.1, y5.1, ())).bind fun y6 =>
  bif !y6.1 then
   some (false, ())
  else
  bif s4.1.2.2.2.2.1 != 1 then
   some (true, ())
  else
  (mark_Right (s4.1.2.1, s4.1.2.2.2.1, ())).bind fun y7 =>
  bif y7.1 then
   some ((s4.1.2.2.2.1.2.1.length : Int) == (s4.1.2.2.1.length : Int), ())
  else
  some (false, ())
 | .ret s4 =>
  bif decide (s4.1 ≥ 0) then
   some (false, ())
  else
  (cycle_Caches (s4.2.1, ())).bind fun y8 =>
  (take_Right (s4.2.1.2.1, y8.1, ())).bind fun y9 =>
  bif !y9.1 then
   some (false, ())
  else
  bif s4.2.1.2.2.2.2.1 != 1 then
   some (true, ())
  else
  (mark_Right (s4.2.1.2.1, s4.2.1.2.2.2.1, ())).bind fun y10 =>
  bif y10.1 then
   some ((s4.2.1.2.2.2.1.2.1.length : Int) == (s4.2.1.2.2.1.length : Int), ())
  else
  some (false, ())
def cycle_Form (x : Wrld × Unit) : Option (Bool × Unit) := cycle_Form_r x.1
def cycle_Form_sm : Sum := ⟨(.cons cWrld .nil), (.cons (.d .bool) .nil), cycle_Form⟩
def cycle_Form_L0 : LoopSum := { hc := ⟨[], [0, 1, 7, 8], [], [], [0], [], 832⟩, h := ⟨[(0, (.d (.sl cMut))), (1, (.fn 145 .nil (.cons (.pvar 0 []) .nil))), (7, (.d cI)), (8, (.d cI))], [(0, (.d cWrld))], [], 832⟩, xid := 0, oc := ⟨[], [], [], [], [0], [], 832⟩, o := ⟨[], [(0, (.d cWrld))], [], 832⟩, rc := ⟨[], [4], [], [], [0], [], 832⟩, r := ⟨[(4, (.d cI))], [(0, (.d cWrld))], [], 832⟩, F := cycle_Form_l0 }
def cycle_Form_c : Ctx := ⟨[(74, cycle_May_sm), (75, cycle_Caches_sm), (143, heap_Form_sm), (144, cycle_within_sm), (146, take_Right_sm), (147, mark_Right_sm)], [(124, Tryz.f124), (145, Tryz.f145), (199, Tryz.f199)], [⟨6, 199, 768, 0, cycle_Form_L0⟩]⟩
theorem cycle_Form_sem : SemOf Tryz.prog 73 cycle_Form_sm := semC (c := cycle_Form_c) Tryz.func73 (sc cycle_May_sem (sc cycle_Caches_sem (sc heap_Form_sem (sc cycle_within_sem (sc take_Right_sem (sc mark_Right_sem an)))))) (fc (flC Tryz.func124) (fc (flC Tryz.func145) (fc (flC Tryz.func199) an))) (ec (aeC [true, false, true, false, false] cycle_Form_s0 Tryz.func199) an) 8
def w20_awake_r  : Option (Bool × Unit) :=
 (w20_small ()).bind fun y1 =>
 (cycle_Marker (((y1.1.1.1, y1.1.1.2.1, y1.1.1.2.2.1, y1.1.1.2.2.2.1, y1.1.1.2.2.2.2.1, ()), y1.1.2.1, y1.1.2.2.1, ((y1.1.2.2.2.1.1.1, y1.1.2.2.2.1.1.2.1, ()), y1.1.2.2.2.1.2.1, y1.1.2.2.2.1.2.2.1, y1.1.2.2.2.1.2.2.2.1, y1.1.2.2.2.1.2.2.2.2.1, y1.1.2.2.2.1.2.2.2.2.2.1, y1.1.2.2.2.1.2.2.2.2.2.2.1, ()), y1.1.2.2.2.2.1, y1.1.2.2.2.2.2.1, y1.1.2.2.2.2.2.2.1, y1.1.2.2.2.2.2.2.2.1, ()), ())).bind fun y2 =>
 (cycle_Marker (y2.1, ())).bind fun y3 =>
 (cycle_Marker (y3.1, ())).bind fun y4 =>
 (cycle_Marker (y4.1, ())).bind fun y5 =>
 (cycle_Sweeper (((y1.1.1.1, y1.1.1.2.1, y1.1.1.2.2.1, y1.1.1.2.2.2.1, y1.1.1.2.2.2.2.1, ()), y1.1.2.1, y1.1.2.2.1, ((y1.1.2.2.2.1.1.1, y1.1.2.2.2.1.1.2.1, ()), y1.1.2.2.2.1.2.1, y1.1.2.2.2.1.2.2.1, y1.1.2.2.2.1.2.2.2.1, y1.1.2.2.2.1.2.2.2.2.1, y1.1.2.2.2.1.2.2.2.2.2.1, y1.1.2.2.2.1.2.2.2.2.2.2.1, ()), y1.1.2.2.2.2.1, y1.1.2.2.2.2.2.1, y1.1.2.2.2.2.2.2.1, y1.1.2.2.2.2.2.2.2.1, ()), ())).bind fun y6 =>
 (cycle_Sweeper (y3.1, ())).bind fun y7 =>
 bif y2.2.1 == 3 then
  bif y2.1.2.2.2.2.2.2.1 == 1 then
   bif !y2.1.2.2.2.2.2.1 then
    bif y2.1.2.2.2.2.1 == 1 then
     bif y2.1.2.1.2.2.1 then
      bif y3.2.1 == 4 then
       bif (y3.1.2.2.2.2.2.2.2.1.length : Int) == 1 then
        bif decide (0 < (y3.1.2.2.2.2.2.2.2.1.length : Int)) then
         bif ((y3.1.2.2.2.2.2.2.2.1.getD 0 (0, 0, 0, 0, 0, ())).1 == 1) && (((y3.1.2.2.2.2.2.2.2.1.getD 0 (0, 0, 0, 0, 0, ())).2.1 == 32) && (((y3.1.2.2.2.2.2.2.2.1.getD 0 (0, 0, 0, 0, 0, ())).2.2.1 == 0) && (((y3.1.2.2.2.2.2.2.2.1.getD 0 (0, 0, 0, 0, 0, ())).2.2.2.1 == 0) && (((y3.1.2.2.2.2.2.2.2.1.getD 0 (0, 0, 0, 0, 0, ())).2.2.2.2.1 == 0) && true)))) then
          bif y4.2.1 == 5 then
           bif y4.1.2.2.2.2.1 == 0 then
            bif y5.2.1 == 0 then
             (r20_Same (y5.1, y4.1, ())).bind fun y8 =>
             bif y8.1 then
              bif y6.2.1 == 0 then
               bif y7.2.1 == 5 then
                (r20_Same (y7.1, y4.1, ())).bind fun y9 =>
                bif y9.1 then
                 (cycle_Form (((y1.1.1.1, y1.1.1.2.1, y1.1.1.2.2.1, y1.1.1.2.2.2.1, y1.1.1.2.2.2.2.1, ()), y1.1.2.1, y1.1.2.2.1, ((y1.1.2.2.2.1.1.1, y1.1.2.2.2.1.1.2.1, ()), y1.1.2.2.2.1.2.1, y1.1.2.2.2.1.2.2.1, y1.1.2.2.2.1.2.2.2.1, y1.1.2.2.2.1.2.2.2.2.1, y1.1.2.2.2.1.2.2.2.2.2.1, y1.1.2.2.2.1.2.2.2.2.2.2.1, ()), y1.1.2.2.2.2.1, y1.1.2.2.2.2.2.1, y1.1.2.2.2.2.2.2.1, y1.1.2.2.2.2.2.2.2.1, ()), ())).bind fun y10 =>
                 bif y10.1 then
                  (cycle_Form (((0, 0, 0, 0, 0, ()), ([], [], false, ()), [], ((0, [], ()), [], [], 0, 0, 0, false, ()), 0, false, 0, [], ()), ())).bind fun y11 =>
                  bif !y11.1 then
                   (cycle_May ((y1.1.1.1, y1.1.1.2.1, y1.1.1.2.2.1, y1.1.1.2.2.2.1, y1.1.1.2.2.2.2.1, ()), ())).bind fun y12 =>
                   bif y12.1 then
                    (cycle_May ((0, 0, 0, 0, 0, ()), ())).bind fun y13 =>
                    bif !y13.1 then
                     (cycle_Caches (((y1.1.1.1, y1.1.1.2.1, y1.1.1.2.2.1, y1.1.1.2.2.2.1, y1.1.1.2.2.2.2.1, ()), y1.1.2.1, y1.1.2.2.1, ((y1.1.2.2.2.1.1.1, y1.1.2.2.2.1.1.2.1, ()), y1.1.2.2.2.1.2.1, y1.1.2.2.2.1.2.2.1, y1.1.2.2.2.1.2.2.2.1, y1.1.2.2.2.1.2.2.2.2.1, y1.1.2.2.2.1.2.2.2.2.2.1, y1.1.2.2.2.1.2.2.2.2.2.2.1, ()), y1.1.2.2.2.2.1, y1.1.2.2.2.2.2.1, y1.1.2.2.2.2.2.2.1, y1.1.2.2.2.2.2.2.2.1, ()), ())).bind fun y14 =>
                     some ((y14.1.length : Int) == 1, ())
                    else
                    some (false, ())
                   else
                   some (false, ())
                  else
                  some (false, ())
                 else
                 some (false, ())
                else
                some (false, ())
               else
               some (false, ())
              else
              some (false, ())
             else
             some (false, ())
            else
            some (false, ())
           else
           some (false, ())
          else
          some (false, ())
         else
         some (false, ())
        else none
       else
       some (false, ())
      else
      some (false, ())
     else
     some (false, ())
    else
    some (false, ())
   else
   some (false, ())
  else
  some (false, ())
 else
 some (false, ())
def w20_awake (x : Unit) : Option (Bool × Unit) := w20_awake_r 
def w20_awake_sm : Sum := ⟨.nil, (.cons (.d .bool) .nil), w20_awake⟩
def w20_awake_c : Ctx := ⟨[(14, r20_Same_sm), (26, cycle_Marker_sm), (31, cycle_Sweeper_sm), (72, w20_small_sm), (73, cycle_Form_sm), (74, cycle_May_sm), (75, cycle_Caches_sm)], [], []⟩
theorem w20_awake_sem : SemOf Tryz.prog 22 w20_awake_sm := semC (c := w20_awake_c) Tryz.func22 (sc r20_Same_sem (sc cycle_Marker_sem (sc cycle_Sweeper_sem (sc w20_small_sem (sc cycle_Form_sem (sc cycle_May_sem (sc cycle_Caches_sem an))))))) an an 8
end
end Go.Proofs.YtkjpakaidjpjgaaGreatDoor.Den
