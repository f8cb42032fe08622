/- What functions come to. Printed by a program of this session. -/
import Derived.Test.YtkjpakaidjpjgaaGreatDoorDfnF0
namespace Go.Proofs.YtkjpakaidjpjgaaGreatDoor.Dfn
open Go
set_option maxRecDepth 100000
set_option linter.unusedVariables false
noncomputable section
abbrev sweep_Dirty_h0 : U := (.cons cI (.cons (.sl cSpan) cVal))
abbrev sweep_Dirty_o0 : U := (.cons cI .nil)
abbrev sweep_Dirty_e0 : U := .nil
def sweep_Dirty_s0r (v3 : Int) (v7 : List Span) (v8 : Int) (v9 : Int) : Option (SRes sweep_Dirty_h0 sweep_Dirty_o0 sweep_Dirty_e0) :=
 bif decide (v9 < v8) then
  bif decide (0 ≤ v9) then
   bif decide (v9 < (v7.length : Int)) then
    (sweep_dirty (v7.getD v9.toNat (0, 0, 0, ()), ())).bind fun y1 =>
    bif y1.1 then
     some (.next (wi64 (v3 + 1), v7, v8, wi64 (v9 + 1), ()))
    else
    some (.next (v3, v7, v8, wi64 (v9 + 1), ()))
   else none
  else none
 else
 some (.fin (.out (v3, ())))
def sweep_Dirty_s0 (x : sweep_Dirty_h0.T) : Option (SRes sweep_Dirty_h0 sweep_Dirty_o0 sweep_Dirty_e0) := sweep_Dirty_s0r x.1 x.2.1 x.2.2.1 x.2.2.2.1
def sweep_Dirty_l0 (x : sweep_Dirty_h0.T) : Option (LRes sweep_Dirty_o0 sweep_Dirty_e0) := iterL sweep_Dirty_s0 9223372036854775808 x
def sweep_Dirty_r (a0 : Heap) : Option (Int × Unit) :=
 (sweep_Dirty_l0 (0, a0.2.1, (a0.2.1.length : Int), 0, ())).bind fun s2 => match s2 with
 | .out s2 =>
  some (s2.1, ())
 | .ret s2 =>
  none
def sweep_Dirty (x : Heap × Unit) : Option (Int × Unit) := sweep_Dirty_r x.1
def sweep_Dirty_sm : Sum := ⟨(.cons cHeap .nil), (.cons (.d cI) .nil), sweep_Dirty⟩
def sweep_Dirty_L0 : LoopSum := { hc := ⟨[], [3, 7, 8, 9], [], [], [], [], 112⟩, h := ⟨[(3, (.d cI)), (7, (.d (.sl cSpan))), (8, (.d cI)), (9, (.d cI))], [], [], 112⟩, xid := 0, oc := ⟨[], [3], [], [], [], [], 112⟩, o := ⟨[(3, (.d cI))], [], [], 112⟩, rc := ⟨[], [], [], [], [112], [], 112⟩, r := ⟨[], [], [], 112⟩, F := sweep_Dirty_l0 }
def sweep_Dirty_c : Ctx := ⟨[(161, sweep_dirty_sm)], [], [⟨8, 93, 0, 0, sweep_Dirty_L0⟩]⟩
theorem sweep_Dirty_sem : SemOf Tryz.prog 93 sweep_Dirty_sm := semC (c := sweep_Dirty_c) Tryz.func93 (sc sweep_dirty_sem an) an (ec (aeC [true, true, false, true, false, false] sweep_Dirty_s0 Tryz.func93) an) 8
def cycle_Sweeper_r (a0 : Wrld) : Option (Wrld × Int × Unit) :=
 bif a0.2.2.2.2.1 != 2 then
  some (a0, 0, ())
 else
 (cycle_Caches (a0, ())).bind fun y1 =>
 (sweep_One (a0.2.1, y1.1, ())).bind fun y2 =>
 bif y2.2.2.2.1 then
  (sweep_Dirty (y2.1, ())).bind fun y3 =>
  bif decide (y3.1 > 0) then
   some ((a0.1, y2.1, a0.2.2), 1, ())
  else
  some ((a0.1, y2.1, a0.2.2.1, a0.2.2.2.1, 0, a0.2.2.2.2.2), 5, ())
 else
 (sweep_Dirty (a0.2.1, ())).bind fun y4 =>
 bif decide (y4.1 > 0) then
  some (a0, 1, ())
 else
 some ((a0.1, a0.2.1, a0.2.2.1, a0.2.2.2.1, 0, a0.2.2.2.2.2), 5, ())
def cycle_Sweeper (x : Wrld × Unit) : Option (Wrld × Int × Unit) := cycle_Sweeper_r x.1
def cycle_Sweeper_sm : Sum := ⟨(.cons cWrld .nil), (.cons (.d cWrld) (.cons (.d cI) .nil)), cycle_Sweeper⟩
def cycle_Sweeper_c : Ctx := ⟨[(75, cycle_Caches_sm), (92, sweep_One_sm), (93, sweep_Dirty_sm)], [], []⟩
theorem cycle_Sweeper_sem : SemOf Tryz.prog 31 cycle_Sweeper_sm := semC (c := cycle_Sweeper_c) Tryz.func31 (sc cycle_Caches_sem (sc sweep_One_sem (sc sweep_Dirty_sem an))) an an 8
def object_with_r (a0 : Heap) (a1 : Int) (a2 : Int) : Option (Heap × Unit) :=
 (slices_Clone_uint64 (a0.1, ())).bind fun y1 =>
 (slices_Clone_api_Span (a0.2.1, ())).bind fun y2 =>
 bif decide (0 ≤ a1) then
  bif decide (a1 < (y1.1.length : Int)) then
   some ((y1.1.set a1.toNat a2, y2.1, a0.2.2), ())
  else none
 else none
def object_with (x : Heap × Int × Int × Unit) : Option (Heap × Unit) := object_with_r x.1 x.2.1 x.2.2.1
def object_with_sm : Sum := ⟨(.cons cHeap (.cons cI (.cons (.int .u64) .nil))), (.cons (.cons (.own (.int .u64)) (.cons (.own cSpan) (.d (.cons .bool .nil)))) .nil), object_with⟩
def object_with_c : Ctx := ⟨[(163, slices_Clone_api_Span_sm), (228, slices_Clone_uint64_sm)], [], []⟩
theorem object_with_sem : SemOf Tryz.prog 185 object_with_sm := semC (c := object_with_c) Tryz.func185 (sc slices_Clone_api_Span_sem (sc slices_Clone_uint64_sem an)) an an 8
def object_Paint_r (a0 : Heap) (a1 : Int) : Option (Heap × Bool × Unit) :=
 (object_Get (a0, a1, ())).bind fun y1 =>
 bif !y1.2.1 then
  some (a0, false, ())
 else
 (header_Put ((y1.1.1, a0.2.2.1, y1.1.2.2.1, y1.1.2.2.2.1, ()), ())).bind fun y2 =>
 (object_with (a0, a1, y2.1, ())).bind fun y3 =>
 some ((y3.1.1, y3.1.2.1, y3.1.2.2), true, ())
def object_Paint (x : Heap × Int × Unit) : Option (Heap × Bool × Unit) := object_Paint_r x.1 x.2.1
def object_Paint_sm : Sum := ⟨(.cons cHeap (.cons cI .nil)), (.cons (.d cHeap) (.cons (.d .bool) .nil)), object_Paint⟩
def object_Paint_c : Ctx := ⟨[(130, object_Get_sm), (185, object_with_sm), (250, header_Put_sm)], [], []⟩
theorem object_Paint_sem : SemOf Tryz.prog 292 object_Paint_sm := semC (c := object_Paint_c) Tryz.func292 (sc object_Get_sem (sc object_with_sem (sc header_Put_sem an))) an an 8
def grey_Push_r (a0 : Grey) (a1 : Int) : Option (Grey × Bool × Unit) :=
 bif decide ((a0.2.1.length : Int) ≥ a0.1) then
  some (a0, false, ())
 else
 bif decide (a1 < 0) then
  some (a0, false, ())
 else
 bif (a0.2.1.length : Int) == (a0.2.1.length : Int) then
  bif decide (0 ≤ (a0.2.1.length : Int)) then
   bif decide ((a0.2.1.length : Int) ≤ (a0.2.1.length : Int)) then
    bif ((a0.2.1.drop 0).take ((a0.2.1.length : Int).toNat - 0)).isEmpty || true then
     bif decide ((((a0.2.1.drop 0).take ((a0.2.1.length : Int).toNat - 0)).length + 1) * 8 ≤ 140737488355328) then
      some ((a0.1, ((a0.2.1.drop 0).take ((a0.2.1.length : Int).toNat - 0)) ++ [a1], a0.2.2), true, ())
     else none
    else none
   else none
  else none
 else none
def grey_Push (x : Grey × Int × Unit) : Option (Grey × Bool × Unit) := grey_Push_r x.1 x.2.1
def grey_Push_sm : Sum := ⟨(.cons cGrey (.cons cI .nil)), (.cons (.d cGrey) (.cons (.d .bool) .nil)), grey_Push⟩
def grey_Push_c : Ctx := ⟨[], [], []⟩
theorem grey_Push_sem : SemOf Tryz.prog 293 grey_Push_sm := semC (c := grey_Push_c) Tryz.func293 an an an 8
def shade_Shade_r (a0 : Heap) (a1 : Grey) (a2 : Val) : Option (Heap × Grey × Bool × Unit) :=
 bif a2.1 != 2 then
  some (a0, a1, false, ())
 else
 (object_Black (a0, a2.2.1, ())).bind fun y1 =>
 bif y1.1 then
  some (a0, a1, false, ())
 else
 (object_Paint (a0, a2.2.1, ())).bind fun y2 =>
 bif !y2.2.1 then
  some (a0, a1, false, ())
 else
 (grey_Push (a1, a2.2.1, ())).bind fun y3 =>
 some (y2.1, y3.1, !y3.2.1, ())
def shade_Shade (x : Heap × Grey × Val × Unit) : Option (Heap × Grey × Bool × Unit) := shade_Shade_r x.1 x.2.1 x.2.2.1
def shade_Shade_sm : Sum := ⟨(.cons cHeap (.cons cGrey (.cons cVal .nil))), (.cons (.d cHeap) (.cons (.d cGrey) (.cons (.d .bool) .nil))), shade_Shade⟩
def shade_Shade_c : Ctx := ⟨[(136, object_Black_sm), (292, object_Paint_sm), (293, grey_Push_sm)], [], []⟩
theorem shade_Shade_sem : SemOf Tryz.prog 239 shade_Shade_sm := semC (c := shade_Shade_c) Tryz.func239 (sc object_Black_sem (sc object_Paint_sem (sc grey_Push_sem an))) an an 8
def mark_Note_r (a0 : Heap) (a1 : Marker) (a2 : Int) (a3 : Val) : Option (Heap × Marker × Unit) :=
 bif decide (0 ≤ a2) then
  bif decide (a2 < (a1.2.1.length : Int)) then
   (shade_Shade (a0, a1.2.1.getD a2.toNat (0, [], ()), a3, ())).bind fun y1 =>
   (slices_Clone_api_Grey (a1.2.1, ())).bind fun y2 =>
   bif decide (0 ≤ a2) then
    bif decide (a2 < (y2.1.length : Int)) then
     bif a1.2.2.2.2.2.2.1 then
      some (y1.1, (a1.1, y2.1.set a2.toNat y1.2.1, a1.2.2.1, a1.2.2.2.1, a1.2.2.2.2.1, a1.2.2.2.2.2.1, true, a1.2.2.2.2.2.2.2), ())
     else
     some (y1.1, (a1.1, y2.1.set a2.toNat y1.2.1, a1.2.2.1, a1.2.2.2.1, a1.2.2.2.2.1, a1.2.2.2.2.2.1, y1.2.2.1, a1.2.2.2.2.2.2.2), ())
    else none
   else none
  else none
 else none
def mark_Note (x : Heap × Marker × Int × Val × Unit) : Option (Heap × Marker × Unit) := mark_Note_r x.1 x.2.1 x.2.2.1 x.2.2.2.1
def mark_Note_sm : Sum := ⟨(.cons cHeap (.cons cMarker (.cons cI (.cons cVal .nil)))), (.cons (.d cHeap) (.cons (.cons (.d cGrey) (.cons (.own cGrey) (.d (.cons (.sl cVal) (.cons cI (.cons cI (.cons cI (.cons .bool .nil)))))))) .nil)), mark_Note⟩
def mark_Note_c : Ctx := ⟨[(206, slices_Clone_api_Grey_sm), (239, shade_Shade_sm)], [], []⟩
theorem mark_Note_sem : SemOf Tryz.prog 177 mark_Note_sm := semC (c := mark_Note_c) Tryz.func177 (sc slices_Clone_api_Grey_sem (sc shade_Shade_sem an)) an an 8
abbrev class_Of_h0 : U := (.cons cI (.cons (.arr 4 cI) (.cons cI .nil)))
abbrev class_Of_o0 : U := .nil
abbrev class_Of_e0 : U := (.cons cI (.cons .bool .nil))
def class_Of_s0r (v0 : Int) (v6 : List Int) (v7 : Int) : Option (SRes class_Of_h0 class_Of_o0 class_Of_e0) :=
 bif decide (v7 < 4) then
  bif decide (0 ≤ v7) then
   bif decide (v7 < 4) then
    bif decide (v0 ≥ 0) then
     bif decide (v0 < (v6.getD v7.toNat 0)) then
      some (.fin (.ret (v7, true, ())))
     else
     some (.next (v0, v6, wi64 (v7 + 1), ()))
    else
    some (.next (v0, v6, wi64 (v7 + 1), ()))
   else none
  else none
 else
 some (.fin (.out ()))
def class_Of_s0 (x : class_Of_h0.T) : Option (SRes class_Of_h0 class_Of_o0 class_Of_e0) := class_Of_s0r x.1 x.2.1 x.2.2.1
def class_Of_l0 (x : class_Of_h0.T) : Option (LRes class_Of_o0 class_Of_e0) := iterL class_Of_s0 9223372036854775808 x
def class_Of_r (a0 : Int) : Option (Int × Bool × Unit) :=
 (class_Of_l0 (a0, ([2, 4, 8, 16] : List Int), 0, ())).bind fun s1 => match s1 with
 | .out s1 =>
  some (0, false, ())
 | .ret s1 =>
  some (s1.1, s1.2.1, ())
def class_Of (x : Int × Unit) : Option (Int × Bool × Unit) := class_Of_r x.1
def class_Of_sm : Sum := ⟨(.cons cI .nil), (.cons (.d cI) (.cons (.d .bool) .nil)), class_Of⟩
def class_Of_L0 : LoopSum := { hc := ⟨[], [0, 6, 7], [], [], [], [], 64⟩, h := ⟨[(0, (.d cI)), (6, (.d (.arr 4 cI))), (7, (.d cI))], [], [], 64⟩, xid := 0, oc := ⟨[], [], [], [], [], [], 64⟩, o := ⟨[], [], [], 64⟩, rc := ⟨[], [2, 3], [], [], [], [], 64⟩, r := ⟨[(2, (.d cI)), (3, (.d .bool))], [], [], 64⟩, F := class_Of_l0 }
def class_Of_c : Ctx := ⟨[], [], [⟨8, 178, 0, 0, class_Of_L0⟩]⟩
theorem class_Of_sem : SemOf Tryz.prog 178 class_Of_sm := semC (c := class_Of_c) Tryz.func178 an an (ec (aeC [true, false, true, false, false] class_Of_s0 Tryz.func178) an) 8
def span_Full_r (a0 : Span) : Option (Bool × Unit) :=
 (span_inUse (a0, ())).bind fun y1 =>
 bif y1.1 then
  some (a0.2.2.1 == 0, ())
 else
 some (false, ())
def span_Full (x : Span × Unit) : Option (Bool × Unit) := span_Full_r x.1
def span_Full_sm : Sum := ⟨(.cons cSpan .nil), (.cons (.d .bool) .nil), span_Full⟩
def span_Full_c : Ctx := ⟨[(220, span_inUse_sm)], [], []⟩
theorem span_Full_sem : SemOf Tryz.prog 294 span_Full_sm := semC (c := span_Full_c) Tryz.func294 (sc span_inUse_sem an) an an 8
def take_open_r (a0 : Span) : Option (Bool × Unit) :=
 bif a0.1 == 1 then
  (span_Full (a0, ())).bind fun y1 =>
  some (!y1.1, ())
 else
 some (false, ())
def take_open (x : Span × Unit) : Option (Bool × Unit) := take_open_r x.1
def take_open_sm : Sum := ⟨(.cons cSpan .nil), (.cons (.d .bool) .nil), take_open⟩
def take_open_c : Ctx := ⟨[(294, span_Full_sm)], [], []⟩
theorem take_open_sem : SemOf Tryz.prog 240 take_open_sm := semC (c := take_open_c) Tryz.func240 (sc span_Full_sem an) an an 8
def queue_row_Len_r (a0 : List Int) : Option (Int × Unit) :=
 some ((a0.length : Int), ())
def queue_row_Len (x : (List Int) × Unit) : Option (Int × Unit) := queue_row_Len_r x.1
def queue_row_Len_sm : Sum := ⟨(.cons (.sl cI) .nil), (.cons (.d cI) .nil), queue_row_Len⟩
def queue_row_Len_c : Ctx := ⟨[], [], []⟩
theorem queue_row_Len_sem : SemOf Tryz.prog 336 queue_row_Len_sm := semC (c := queue_row_Len_c) Tryz.func336 an an an 8
def take_Page_2_r (a0 : Int) (a1 : Span) : Option (Bool × Unit) :=
 some (a1.1 == 0, ())
def take_Page_2 (x : Int × Span × Unit) : Option (Bool × Unit) := take_Page_2_r x.1 x.2.1
def take_Page_2_sm : Sum := ⟨(.cons cI (.cons cSpan .nil)), (.cons (.d .bool) .nil), take_Page_2⟩
def take_Page_2_c : Ctx := ⟨[], [], []⟩
theorem take_Page_2_sem : SemOf Tryz.prog 243 take_Page_2_sm := semC (c := take_Page_2_c) Tryz.func243 an an an 8
abbrev take_Page_h0 : U := (.cons cI (.cons cI (.cons cI (.cons cHeap (.cons (.sl (.arr 4 cI)) (.cons cI (.cons cHeap (.cons (.sl cI) .nil))))))))
abbrev take_Page_o0 : U := (.cons cI (.cons cI (.cons cHeap (.cons (.sl (.arr 4 cI)) (.cons cI (.cons cHeap (.cons (.sl cI) .nil)))))))
abbrev take_Page_e0 : U := .nil
def take_Page_s0r (v1 : Int) (v2 : Int) (v7 : Int) (c0 : Heap) (c16 : List (List Int)) (c32 : Int) (c480 : Heap) (r592 : List Int) : Option (SRes take_Page_h0 take_Page_o0 take_Page_e0) :=
 bif decide ((wi64 ((wi64 (2 * v7)) + 1)) ≥ v2) then
  some (.fin (.out (v1, v7, c0, c16, c32, c480, r592, ())))
 else
 bif decide ((wi64 ((wi64 (2 * v7)) + 1)) < 0) then
  some (.fin (.out (v1, v7, c0, c16, c32, c480, r592, ())))
 else
 bif decide ((wi64 ((wi64 ((wi64 (2 * v7)) + 1)) + 1)) < v2) then
  bif decide (0 ≤ (wi64 ((wi64 ((wi64 (2 * v7)) + 1)) + 1))) then
   bif decide ((wi64 ((wi64 ((wi64 (2 * v7)) + 1)) + 1)) < (r592.length : Int)) then
    bif decide (0 ≤ (wi64 ((wi64 (2 * v7)) + 1))) then
     bif decide ((wi64 ((wi64 (2 * v7)) + 1)) < (r592.length : Int)) then
      bif decide ((r592.getD (wi64 ((wi64 ((wi64 (2 * v7)) + 1)) + 1)).toNat 0) < (r592.getD (wi64 ((wi64 (2 * v7)) + 1)).toNat 0)) then
       bif decide (0 ≤ (wi64 ((wi64 ((wi64 (2 * v7)) + 1)) + 1))) then
        bif decide ((wi64 ((wi64 ((wi64 (2 * v7)) + 1)) + 1)) < (r592.length : Int)) then
         bif decide (0 ≤ v7) then
          bif decide (v7 < (r592.length : Int)) then
           bif !(decide ((r592.getD (wi64 ((wi64 ((wi64 (2 * v7)) + 1)) + 1)).toNat 0) < (r592.getD v7.toNat 0))) then
            some (.fin (.out (v1, v7, c0, c16, c32, c480, r592, ())))
           else
           bif decide (0 ≤ (wi64 ((wi64 ((wi64 (2 * v7)) + 1)) + 1))) then
            bif decide ((wi64 ((wi64 ((wi64 (2 * v7)) + 1)) + 1)) < (r592.length : Int)) then
             bif decide (0 ≤ v7) then
              bif decide (v7 < (r592.length : Int)) then
               bif decide (0 ≤ v7) then
                bif decide (v7 < (r592.length : Int)) then
                 bif decide (0 ≤ (wi64 ((wi64 ((wi64 (2 * v7)) + 1)) + 1))) then
                  bif decide ((wi64 ((wi64 ((wi64 (2 * v7)) + 1)) + 1)) < ((r592.set v7.toNat (r592.getD (wi64 ((wi64 ((wi64 (2 * v7)) + 1)) + 1)).toNat 0)).length : Int)) then
                   some (.next (v1, v2, wi64 ((wi64 ((wi64 (2 * v7)) + 1)) + 1), c0, c16, c32, c480, (r592.set v7.toNat (r592.getD (wi64 ((wi64 ((wi64 (2 * v7)) + 1)) + 1)).toNat 0)).set (wi64 ((wi64 ((wi64 (2 * v7)) + 1)) + 1)).toNat (r592.getD v7.toNat 0), ()))
                  else none
                 else none
                else none
               else none
              else none
             else none
            else none
           else none
          else none
         else none
        else none
       else none
      else
      bif decide (0 ≤ (wi64 ((wi64 (2 * v7)) + 1))) then
       bif decide ((wi64 ((wi64 (2 * v7)) + 1)) < (r592.length : Int)) then
        bif decide (0 ≤ v7) then
         bif decide (v7 < (r592.length : Int)) then
          bif !(decide ((r592.getD (wi64 ((wi64 (2 * v7)) + 1)).toNat 0) < (r592.getD v7.toNat 0))) then
           some (.fin (.out (v1, v7, c0, c16, c32, c480, r592, ())))
          else
          bif decide (0 ≤ (wi64 ((wi64 (2 * v7)) + 1))) then
           bif decide ((wi64 ((wi64 (2 * v7)) + 1)) < (r592.length : Int)) then
            bif decide (0 ≤ v7) then
             bif decide (v7 < (r592.length : Int)) then
              bif decide (0 ≤ v7) then
               bif decide (v7 < (r592.length : Int)) then
                bif decide (0 ≤ (wi64 ((wi64 (2 * v7)) + 1))) then
                 bif decide ((wi64 ((wi64 (2 * v7)) + 1)) < ((r592.set v7.toNat (r592.getD (wi64 ((wi64 (2 * v7)) + 1)).toNat 0)).length : Int)) then
                  some (.next (v1, v2, wi64 ((wi64 (2 * v7)) + 1), c0, c16, c32, c480, (r592.set v7.toNat (r592.getD (wi64 ((wi64 (2 * v7)) + 1)).toNat 0)).set (wi64 ((wi64 (2 * v7)) + 1)).toNat (r592.getD v7.toNat 0), ()))
                 else none
                else none
               else none
              else none
             else none
            else none
           else none
          else none
         else none
        else none
       else none
      else none
     else none
    else none
   else none
  else none
 else
 bif decide (0 ≤ (wi64 ((wi64 (2 * v7)) + 1))) then
  bif decide ((wi64 ((wi64 (2 * v7)) + 1)) < (r592.length : Int)) then
   bif decide (0 ≤ v7) then
    bif decide (v7 < (r592.length : Int)) then
     bif !(decide ((r592.getD (wi64 ((wi64 (2 * v7)) + 1)).toNat 0) < (r592.getD v7.toNat 0))) then
      some (.fin (.out (v1, v7, c0, c16, c32, c480, r592, ())))
     else
     bif decide (0 ≤ (wi64 ((wi64 (2 * v7)) + 1))) then
      bif decide ((wi64 ((wi64 (2 * v7)) + 1)) < (r592.length : Int)) then
       bif decide (0 ≤ v7) then
        bif decide (v7 < (r592.length : Int)) then
         bif decide (0 ≤ v7) then
          bif decide (v7 < (r592.length : Int)) then
           bif decide (0 ≤ (wi64 ((wi64 (2 * v7)) + 1))) then
            bif decide ((wi64 ((wi64 (2 * v7)) + 1)) < ((r592.set v7.toNat (r592.getD (wi64 ((wi64 (2 * v7)) + 1)).toNat 0)).length : Int)) then
             some (.next (v1, v2, wi64 ((wi64 (2 * v7)) + 1), c0, c16, c32, c480, (r592.set v7.toNat (r592.getD (wi64 ((wi64 (2 * v7)) + 1)).toNat 0)).set (wi64 ((wi64 (2 * v7)) + 1)).toNat (r592.getD v7.toNat 0), ()))
            else none
           else none
          else none
         else none
        else none
       else none
      else none
     else none
    else none
   else none
  else none
 else none
def take_Page_s0 (x : take_Page_h0.T) : Option (SRes take_Page_h0 take_Page_o0 take_Page_e0) := take_Page_s0r x.1 x.2.1 x.2.2.1 x.2.2.2.1 x.2.2.2.2.1 x.2.2.2.2.2.1 x.2.2.2.2.2.2.1 x.2.2.2.2.2.2.2.1
def take_Page_l0 (x : take_Page_h0.T) : Option (LRes take_Page_o0 take_Page_e0) := iterL take_Page_s0 9223372036854775808 x
abbrev take_Page_h1 : U := (.cons cI (.cons cI (.cons cHeap (.cons (.sl (.arr 4 cI)) (.cons cI (.cons cHeap (.cons (.sl cI) .nil)))))))
abbrev take_Page_o1 : U := (.cons cHeap (.cons (.sl (.arr 4 cI)) (.cons cI (.cons cHeap (.cons (.sl cI) .nil)))))
abbrev take_Page_e1 : U := .nil
def take_Page_s1r (v2 : Int) (v3 : Int) (c0 : Heap) (c16 : List (List Int)) (c32 : Int) (c480 : Heap) (r592 : List Int) : Option (SRes take_Page_h1 take_Page_o1 take_Page_e1) :=
 bif decide (v3 ≥ 0) then
  (take_Page_l0 (v3, v2, v3, c0, c16, c32, c480, r592, ())).bind fun s4 => match s4 with
  | .out s4 =>
   some (.next (v2, wi64 (v3 - 1), s4.2.2.1, s4.2.2.2.1, s4.2.2.2.2.1, s4.2.2.2.2.2.1, s4.2.2.2.2.2.2.1, ()))
  | .ret s4 =>
   none
 else
 some (.fin (.out (c0, c16, c32, c480, r592, ())))
def take_Page_s1 (x : take_Page_h1.T) : Option (SRes take_Page_h1 take_Page_o1 take_Page_e1) := take_Page_s1r x.1 x.2.1 x.2.2.1 x.2.2.2.1 x.2.2.2.2.1 x.2.2.2.2.2.1 x.2.2.2.2.2.2.1
def take_Page_l1 (x : take_Page_h1.T) : Option (LRes take_Page_o1 take_Page_e1) := iterL take_Page_s1 9223372036854775808 x
abbrev take_Page_h2 : U := (.cons cI (.cons cHeap (.cons (.sl (.arr 4 cI)) (.cons cI (.cons .nil (.cons (.sl cI) .nil))))))
abbrev take_Page_o2 : U := (.cons cHeap (.cons (.sl (.arr 4 cI)) (.cons cI (.cons .nil (.cons (.sl cI) .nil)))))
abbrev take_Page_e2 : U := .nil
def take_Page_s2r (v1 : Int) (c0 : Heap) (c16 : List (List Int)) (c32 : Int) (c800 : Unit) (r1793 : List Int) : Option (SRes take_Page_h2 take_Page_o2 take_Page_e2) :=
 bif (wi64 ((wi64 (v1 - 1)).tdiv 2)) == v1 then
  some (.fin (.out (c0, c16, c32, c800, r1793, ())))
 else
 bif decide (0 ≤ v1) then
  bif decide (v1 < (r1793.length : Int)) then
   bif decide (0 ≤ (wi64 ((wi64 (v1 - 1)).tdiv 2))) then
    bif decide ((wi64 ((wi64 (v1 - 1)).tdiv 2)) < (r1793.length : Int)) then
     bif !(decide ((r1793.getD v1.toNat 0) < (r1793.getD (wi64 ((wi64 (v1 - 1)).tdiv 2)).toNat 0))) then
      some (.fin (.out (c0, c16, c32, c800, r1793, ())))
     else
     bif decide (0 ≤ v1) then
      bif decide (v1 < (r1793.length : Int)) then
       bif decide (0 ≤ (wi64 ((wi64 (v1 - 1)).tdiv 2))) then
        bif decide ((wi64 ((wi64 (v1 - 1)).tdiv 2)) < (r1793.length : Int)) then
         bif decide (0 ≤ (wi64 ((wi64 (v1 - 1)).tdiv 2))) then
          bif decide ((wi64 ((wi64 (v1 - 1)).tdiv 2)) < (r1793.length : Int)) then
           bif decide (0 ≤ v1) then
            bif decide (v1 < ((r1793.set (wi64 ((wi64 (v1 - 1)).tdiv 2)).toNat (r1793.getD v1.toNat 0)).length : Int)) then
             some (.next (wi64 ((wi64 (v1 - 1)).tdiv 2), c0, c16, c32, c800, (r1793.set (wi64 ((wi64 (v1 - 1)).tdiv 2)).toNat (r1793.getD v1.toNat 0)).set v1.toNat (r1793.getD (wi64 ((wi64 (v1 - 1)).tdiv 2)).toNat 0), ()))
            else none
           else none
          else none
         else none
        else none
       else none
      else none
     else none
    else none
   else none
  else none
 else none
def take_Page_s2 (x : take_Page_h2.T) : Option (SRes take_Page_h2 take_Page_o2 take_Page_e2) := take_Page_s2r x.1 x.2.1 x.2.2.1 x.2.2.2.1 x.2.2.2.2.1 x.2.2.2.2.2.1
def take_Page_l2 (x : take_Page_h2.T) : Option (LRes take_Page_o2 take_Page_e2) := iterL take_Page_s2 9223372036854775808 x
abbrev take_Page_h3 : U := (.cons (.sl cSpan) (.cons cI (.cons cI (.cons cHeap (.cons (.sl (.arr 4 cI)) (.cons cI (.cons .nil (.cons (.sl cI) .nil))))))))
abbrev take_Page_o3 : U := (.cons cHeap (.cons .nil (.cons (.sl cI) .nil)))
abbrev take_Page_e3 : U := .nil
def take_Page_s3r (v11 : List Span) (v12 : Int) (v13 : Int) (c0 : Heap) (c16 : List (List Int)) (c32 : Int) (c800 : Unit) (r896 : List Int) : Option (SRes take_Page_h3 take_Page_o3 take_Page_e3) :=
 bif decide (v13 < v12) then
  bif decide (0 ≤ v13) then
   bif decide (v13 < (v11.length : Int)) then
    (take_open (v11.getD v13.toNat (0, 0, 0, ()), ())).bind fun y6 =>
    bif y6.1 then
     bif (v11.getD v13.toNat (0, 0, 0, ())).2.1 == c32 then
      (take_Kept (c16, v13, ())).bind fun y7 =>
      bif !y7.1 then
       bif decide ((r896.length + 1) * 8 ≤ 140737488355328) then
        (queue_row_Len (r896 ++ [v13], ())).bind fun y8 =>
        (take_Page_l2 (wi64 (y8.1 - 1), c0, c16, c32, c800, r896 ++ [v13], ())).bind fun s9 => match s9 with
        | .out s9 =>
         some (.next (v11, v12, wi64 (v13 + 1), s9.1, s9.2.1, s9.2.2.1, s9.2.2.2.1, s9.2.2.2.2.1, ()))
        | .ret s9 =>
         none
       else none
      else
      some (.next (v11, v12, wi64 (v13 + 1), c0, c16, c32, c800, r896, ()))
     else
     some (.next (v11, v12, wi64 (v13 + 1), c0, c16, c32, c800, r896, ()))
    else
    some (.next (v11, v12, wi64 (v13 + 1), c0, c16, c32, c800, r896, ()))
   else none
  else none
 else
 some (.fin (.out (c0, c800, r896, ())))
def take_Page_s3 (x : take_Page_h3.T) : Option (SRes take_Page_h3 take_Page_o3 take_Page_e3) := take_Page_s3r x.1 x.2.1 x.2.2.1 x.2.2.2.1 x.2.2.2.2.1 x.2.2.2.2.2.1 x.2.2.2.2.2.2.1 x.2.2.2.2.2.2.2.1
def take_Page_l3 (x : take_Page_h3.T) : Option (LRes take_Page_o3 take_Page_e3) := iterL take_Page_s3 9223372036854775808 x
abbrev take_Page_h4 : U := (.cons cI (.cons cI (.cons cI (.cons cHeap (.cons (.sl cI) .nil)))))
abbrev take_Page_o4 : U := (.cons cI (.cons cI (.cons cHeap (.cons (.sl cI) .nil))))
abbrev take_Page_e4 : U := .nil
def take_Page_s4r (v1 : Int) (v2 : Int) (v7 : Int) (c1297 : Heap) (r1409 : List Int) : Option (SRes take_Page_h4 take_Page_o4 take_Page_e4) :=
 bif decide ((wi64 ((wi64 (2 * v7)) + 1)) ≥ v2) then
  some (.fin (.out (v1, v7, c1297, r1409, ())))
 else
 bif decide ((wi64 ((wi64 (2 * v7)) + 1)) < 0) then
  some (.fin (.out (v1, v7, c1297, r1409, ())))
 else
 bif decide ((wi64 ((wi64 ((wi64 (2 * v7)) + 1)) + 1)) < v2) then
  bif decide (0 ≤ (wi64 ((wi64 ((wi64 (2 * v7)) + 1)) + 1))) then
   bif decide ((wi64 ((wi64 ((wi64 (2 * v7)) + 1)) + 1)) < (r1409.length : Int)) then
    bif decide (0 ≤ (wi64 ((wi64 (2 * v7)) + 1))) then
     bif decide ((wi64 ((wi64 (2 * v7)) + 1)) < (r1409.length : Int)) then
      bif decide ((r1409.getD (wi64 ((wi64 ((wi64 (2 * v7)) + 1)) + 1)).toNat 0) < (r1409.getD (wi64 ((wi64 (2 * v7)) + 1)).toNat 0)) then
       bif decide (0 ≤ (wi64 ((wi64 ((wi64 (2 * v7)) + 1)) + 1))) then
        bif decide ((wi64 ((wi64 ((wi64 (2 * v7)) + 1)) + 1)) < (r1409.length : Int)) then
         bif decide (0 ≤ v7) then
          bif decide (v7 < (r1409.length : Int)) then
           bif !(decide ((r1409.getD (wi64 ((wi64 ((wi64 (2 * v7)) + 1)) + 1)).toNat 0) < (r1409.getD v7.toNat 0))) then
            some (.fin (.out (v1, v7, c1297, r1409, ())))
           else
           bif decide (0 ≤ (wi64 ((wi64 ((wi64 (2 * v7)) + 1)) + 1))) then
            bif decide ((wi64 ((wi64 ((wi64 (2 * v7)) + 1)) + 1)) < (r1409.length : Int)) then
             bif decide (0 ≤ v7) then
              bif decide (v7 < (r1409.length : Int)) then
               bif decide (0 ≤ v7) then
                bif decide (v7 < (r1409.length : Int)) then
                 bif decide (0 ≤ (wi64 ((wi64 ((wi64 (2 * v7)) + 1)) + 1))) then
                  bif decide ((wi64 ((wi64 ((wi64 (2 * v7)) + 1)) + 1)) < ((r1409.set v7.toNat (r1409.getD (wi64 ((wi64 ((wi64 (2 * v7)) + 1)) + 1)).toNat 0)).length : Int)) then
                   some (.next (v1, v2, wi64 ((wi64 ((wi64 (2 * v7)) + 1)) + 1), c1297, (r1409.set v7.toNat (r1409.getD (wi64 ((wi64 ((wi64 (2 * v7)) + 1)) + 1)).toNat 0)).set (wi64 ((wi64 ((wi64 (2 * v7)) + 1)) + 1)).toNat (r1409.getD v7.toNat 0), ()))
                  else none
                 else none
                else none
               else none
              else none
             else none
            else none
           else none
          else none
         else none
        else none
       else none
      else
      bif decide (0 ≤ (wi64 ((wi64 (2 * v7)) + 1))) then
       bif decide ((wi64 ((wi64 (2 * v7)) + 1)) < (r1409.length : Int)) then
        bif decide (0 ≤ v7) then
         bif decide (v7 < (r1409.length : Int)) then
          bif !(decide ((r1409.getD (wi64 ((wi64 (2 * v7)) + 1)).toNat 0) < (r1409.getD v7.toNat 0))) then
           some (.fin (.out (v1, v7, c1297, r1409, ())))
          else
          bif decide (0 ≤ (wi64 ((wi64 (2 * v7)) + 1))) then
           bif decide ((wi64 ((wi64 (2 * v7)) + 1)) < (r1409.length : Int)) then
            bif decide (0 ≤ v7) then
             bif decide (v7 < (r1409.length : Int)) then
              bif decide (0 ≤ v7) then
               bif decide (v7 < (r1409.length : Int)) then
                bif decide (0 ≤ (wi64 ((wi64 (2 * v7)) + 1))) then
                 bif decide ((wi64 ((wi64 (2 * v7)) + 1)) < ((r1409.set v7.toNat (r1409.getD (wi64 ((wi64 (2 * v7)) + 1)).toNat 0)).length : Int)) then
                  some (.next (v1, v2, wi64 ((wi64 (2 * v7)) + 1), c1297, (r1409.set v7.toNat (r1409.getD (wi64 ((wi64 (2 * v7)) + 1)).toNat 0)).set (wi64 ((wi64 (2 * v7)) + 1)).toNat (r1409.getD v7.toNat 0), ()))
                 else none
                else none
               else none
              else none
             else none
            else none
           else none
          else none
         else none
        else none
       else none
      else none
     else none
    else none
   else none
  else none
 else
 bif decide (0 ≤ (wi64 ((wi64 (2 * v7)) + 1))) then
  bif decide ((wi64 ((wi64 (2 * v7)) + 1)) < (r1409.length : Int)) then
   bif decide (0 ≤ v7) then
    bif decide (v7 < (r1409.length : Int)) then
     bif !(decide ((r1409.getD (wi64 ((wi64 (2 * v7)) + 1)).toNat 0) < (r1409.getD v7.toNat 0))) then
      some (.fin (.out (v1, v7, c1297, r1409, ())))
     else
     bif decide (0 ≤ (wi64 ((wi64 (2 * v7)) + 1))) then
      bif decide ((wi64 ((wi64 (2 * v7)) + 1)) < (r1409.length : Int)) then
       bif decide (0 ≤ v7) then
        bif decide (v7 < (r1409.length : Int)) then
         bif decide (0 ≤ v7) then
          bif decide (v7 < (r1409.length : Int)) then
           bif decide (0 ≤ (wi64 ((wi64 (2 * v7)) + 1))) then
            bif decide ((wi64 ((wi64 (2 * v7)) + 1)) < ((r1409.set v7.toNat (r1409.getD (wi64 ((wi64 (2 * v7)) + 1)).toNat 0)).length : Int)) then
             some (.next (v1, v2, wi64 ((wi64 (2 * v7)) + 1), c1297, (r1409.set v7.toNat (r1409.getD (wi64 ((wi64 (2 * v7)) + 1)).toNat 0)).set (wi64 ((wi64 (2 * v7)) + 1)).toNat (r1409.getD v7.toNat 0), ()))
            else none
           else none
          else none
         else none
        else none
       else none
      else none
     else none
    else none
   else none
  else none
 else none
def take_Page_s4 (x : take_Page_h4.T) : Option (SRes take_Page_h4 take_Page_o4 take_Page_e4) := take_Page_s4r x.1 x.2.1 x.2.2.1 x.2.2.2.1 x.2.2.2.2.1
def take_Page_l4 (x : take_Page_h4.T) : Option (LRes take_Page_o4 take_Page_e4) := iterL take_Page_s4 9223372036854775808 x
abbrev take_Page_h5 : U := (.cons cI (.cons cI (.cons cHeap (.cons (.sl cI) .nil))))
abbrev take_Page_o5 : U := (.cons cHeap (.cons (.sl cI) .nil))
abbrev take_Page_e5 : U := .nil
def take_Page_s5r (v2 : Int) (v3 : Int) (c1297 : Heap) (r1409 : List Int) : Option (SRes take_Page_h5 take_Page_o5 take_Page_e5) :=
 bif decide (v3 ≥ 0) then
  (take_Page_l4 (v3, v2, v3, c1297, r1409, ())).bind fun s14 => match s14 with
  | .out s14 =>
   some (.next (v2, wi64 (v3 - 1), s14.2.2.1, s14.2.2.2.1, ()))
  | .ret s14 =>
   none
 else
 some (.fin (.out (c1297, r1409, ())))
def take_Page_s5 (x : take_Page_h5.T) : Option (SRes take_Page_h5 take_Page_o5 take_Page_e5) := take_Page_s5r x.1 x.2.1 x.2.2.1 x.2.2.2.1
def take_Page_l5 (x : take_Page_h5.T) : Option (LRes take_Page_o5 take_Page_e5) := iterL take_Page_s5 9223372036854775808 x
abbrev take_Page_h6 : U := (.cons cI (.cons .nil (.cons (.sl cI) .nil)))
abbrev take_Page_o6 : U := (.cons .nil (.cons (.sl cI) .nil))
abbrev take_Page_e6 : U := .nil
def take_Page_s6r (v1 : Int) (c1617 : Unit) (r2338 : List Int) : Option (SRes take_Page_h6 take_Page_o6 take_Page_e6) :=
 bif (wi64 ((wi64 (v1 - 1)).tdiv 2)) == v1 then
  some (.fin (.out (c1617, r2338, ())))
 else
 bif decide (0 ≤ v1) then
  bif decide (v1 < (r2338.length : Int)) then
   bif decide (0 ≤ (wi64 ((wi64 (v1 - 1)).tdiv 2))) then
    bif decide ((wi64 ((wi64 (v1 - 1)).tdiv 2)) < (r2338.length : Int)) then
     bif !(decide ((r2338.getD v1.toNat 0) < (r2338.getD (wi64 ((wi64 (v1 - 1)).tdiv 2)).toNat 0))) then
      some (.fin (.out (c1617, r2338, ())))
     else
     bif decide (0 ≤ v1) then
      bif decide (v1 < (r2338.length : Int)) then
       bif decide (0 ≤ (wi64 ((wi64 (v1 - 1)).tdiv 2))) then
        bif decide ((wi64 ((wi64 (v1 - 1)).tdiv 2)) < (r2338.length : Int)) then
         bif decide (0 ≤ (wi64 ((wi64 (v1 - 1)).tdiv 2))) then
          bif decide ((wi64 ((wi64 (v1 - 1)).tdiv 2)) < (r2338.length : Int)) then
           bif decide (0 ≤ v1) then
            bif decide (v1 < ((r2338.set (wi64 ((wi64 (v1 - 1)).tdiv 2)).toNat (r2338.getD v1.toNat 0)).length : Int)) then
             some (.next (wi64 ((wi64 (v1 - 1)).tdiv 2), c1617, (r2338.set (wi64 ((wi64 (v1 - 1)).tdiv 2)).toNat (r2338.getD v1.toNat 0)).set v1.toNat (r2338.getD (wi64 ((wi64 (v1 - 1)).tdiv 2)).toNat 0), ()))
            else none
           else none
          else none
         else none
        else none
       else none
      else none
     else none
    else none
   else none
  else none
 else none
def take_Page_s6 (x : take_Page_h6.T) : Option (SRes take_Page_h6 take_Page_o6 take_Page_e6) := take_Page_s6r x.1 x.2.1 x.2.2.1
def take_Page_l6 (x : take_Page_h6.T) : Option (LRes take_Page_o6 take_Page_e6) := iterL take_Page_s6 9223372036854775808 x
abbrev take_Page_h7 : U := (.cons (.sl cSpan) (.cons cI (.cons cI (.cons .nil (.cons (.sl cI) .nil)))))
abbrev take_Page_o7 : U := (.cons .nil (.cons (.sl cI) .nil))
abbrev take_Page_e7 : U := .nil
def take_Page_s7r (v11 : List Span) (v12 : Int) (v13 : Int) (c1617 : Unit) (r1713 : List Int) : Option (SRes take_Page_h7 take_Page_o7 take_Page_e7) :=
 bif decide (v13 < v12) then
  bif decide (0 ≤ v13) then
   bif decide (v13 < (v11.length : Int)) then
    (take_Page_2 (v13, v11.getD v13.toNat (0, 0, 0, ()), ())).bind fun y16 =>
    bif y16.1 then
     bif decide ((r1713.length + 1) * 8 ≤ 140737488355328) then
      (queue_row_Len (r1713 ++ [v13], ())).bind fun y17 =>
      (take_Page_l6 (wi64 (y17.1 - 1), c1617, r1713 ++ [v13], ())).bind fun s18 => match s18 with
      | .out s18 =>
       some (.next (v11, v12, wi64 (v13 + 1), s18.1, s18.2.1, ()))
      | .ret s18 =>
       none
     else none
    else
    some (.next (v11, v12, wi64 (v13 + 1), c1617, r1713, ()))
   else none
  else none
 else
 some (.fin (.out (c1617, r1713, ())))
def take_Page_s7 (x : take_Page_h7.T) : Option (SRes take_Page_h7 take_Page_o7 take_Page_e7) := take_Page_s7r x.1 x.2.1 x.2.2.1 x.2.2.2.1 x.2.2.2.2.1
def take_Page_l7 (x : take_Page_h7.T) : Option (LRes take_Page_o7 take_Page_e7) := iterL take_Page_s7 9223372036854775808 x
def take_Page_r (a0 : Heap) (a1 : List (List Int)) (a2 : Int) (a3 : Int) : Option (Int × Bool × Unit) :=
 bif decide (0 ≤ a2) then
  bif decide (a2 < (a1.length : Int)) then
   bif decide (0 ≤ a3) then
    bif decide (a3 < 4) then
     bif ((a1.getD a2.toNat (List.replicate 4 0)).getD a3.toNat 0) != (-1) then
      bif decide (0 ≤ ((a1.getD a2.toNat (List.replicate 4 0)).getD a3.toNat 0)) then
       bif decide (((a1.getD a2.toNat (List.replicate 4 0)).getD a3.toNat 0) < (a0.2.1.length : Int)) then
        (take_open (a0.2.1.getD ((a1.getD a2.toNat (List.replicate 4 0)).getD a3.toNat 0).toNat (0, 0, 0, ()), ())).bind fun y1 =>
        bif y1.1 then
         some ((a1.getD a2.toNat (List.replicate 4 0)).getD a3.toNat 0, true, ())
        else
        (slices_Clone_int ([], ())).bind fun y2 =>
        (queue_row_Len (y2.1, ())).bind fun y3 =>
        (take_Page_l1 (y3.1, wi64 ((wi64 (y3.1.tdiv 2)) - 1), a0, a1, a3, a0, y2.1, ())).bind fun s5 => match s5 with
        | .out s5 =>
         (take_Page_l3 (s5.2.2.2.1.2.1, (s5.2.2.2.1.2.1.length : Int), 0, s5.1, s5.2.1, s5.2.2.1, (), s5.2.2.2.2.1, ())).bind fun s10 => match s10 with
         | .out s10 =>
          (queue_row_Len (s10.2.2.1, ())).bind fun y11 =>
          bif y11.1 == 0 then
           (slices_Clone_int ([], ())).bind fun y12 =>
           (queue_row_Len (y12.1, ())).bind fun y13 =>
           (take_Page_l5 (y13.1, wi64 ((wi64 (y13.1.tdiv 2)) - 1), s10.1, y12.1, ())).bind fun s15 => match s15 with
           | .out s15 =>
            (take_Page_l7 (s15.1.2.1, (s15.1.2.1.length : Int), 0, (), s15.2.1, ())).bind fun s19 => match s19 with
            | .out s19 =>
             (queue_row_Len (s19.2.1, ())).bind fun y20 =>
             bif y20.1 == 0 then
              some (0, false, ())
             else
             bif decide (0 < (s19.2.1.length : Int)) then
              some (s19.2.1.getD 0 0, true, ())
             else none
            | .ret s19 =>
             none
           | .ret s15 =>
            none
          else
          bif decide (0 < (s10.2.2.1.length : Int)) then
           some (s10.2.2.1.getD 0 0, true, ())
          else none
         | .ret s10 =>
          none
        | .ret s5 =>
         none
       else none
      else none
     else
     (slices_Clone_int ([], ())).bind fun y21 =>
     (queue_row_Len (y21.1, ())).bind fun y22 =>
     (take_Page_l1 (y22.1, wi64 ((wi64 (y22.1.tdiv 2)) - 1), a0, a1, a3, a0, y21.1, ())).bind fun s23 => match s23 with
     | .out s23 =>
      (take_Page_l3 (s23.2.2.2.1.2.1, (s23.2.2.2.1.2.1.length : Int), 0, s23.1, s23.2.1, s23.2.2.1, (), s23.2.2.2.2.1, ())).bind fun s24 => match s24 with
      | .out s24 =>
       (queue_row_Len (s24.2.2.1, ())).bind fun y25 =>
       bif y25.1 == 0 then
        (slices_Clone_int ([], ())).bind fun y26 =>
        (queue_row_Len (y26.1, ())).bind fun y27 =>
        (take_Page_l5 (y27.1, wi64 ((wi64 (y27.1.tdiv 2)) - 1), s24.1, y26.1, ())).bind fun s28 => match s28 with
        | .out s28 =>
         (take_Page_l7 (s28.1.2.1, (s28.1.2.1.length : Int), 0, (), s28.2.1, ())).bind fun s29 => match s29 with
         | .out s29 =>
          (queue_row_Len (s29.2.1, ())).bind fun y30 =>
          bif y30.1 == 0 then
           some (0, false, ())
          else
          bif decide (0 < (s29.2.1.length : Int)) then
           some (s29.2.1.getD 0 0, true, ())
          else none
         | .ret s29 =>
          none
        | .ret s28 =>
         none
       else
       bif decide (0 < (s24.2.2.1.length : Int)) then
        some (s24.2.2.1.getD 0 0, true, ())
       else none
      | .ret s24 =>
       none
     | .ret s23 =>
      none
    else none
   else none
  else none
 else none
def take_Page (x : Heap × (List (List Int)) × Val) : Option (Int × Bool × Unit) := take_Page_r x.1 x.2.1 x.2.2.1 x.2.2.2.1
def take_Page_sm : Sum := ⟨(.cons cHeap (.cons (.sl (.arr 4 cI)) cVal)), (.cons (.d cI) (.cons (.d .bool) .nil)), take_Page⟩
def take_Page_L0 : LoopSum := { hc := ⟨[], [0, 1, 2, 7], [], [], [0, 16, 32, 480, 608], [592], 928⟩, h := ⟨[(0, (.fn 302 (.cons (.pvar 608 []) .nil) .undef)), (1, (.d cI)), (2, (.d cI)), (7, (.d cI))], [(0, (.d cHeap)), (16, (.d (.sl (.arr 4 cI)))), (32, (.d cI)), (480, (.d cHeap)), (608, (.row 592))], [(592, cI, true)], 928⟩, xid := 0, oc := ⟨[], [1, 7], [], [], [0, 16, 32, 480, 608], [592], 928⟩, o := ⟨[(1, (.d cI)), (7, (.d cI))], [(0, (.d cHeap)), (16, (.d (.sl (.arr 4 cI)))), (32, (.d cI)), (480, (.d cHeap)), (608, (.row 592))], [(592, cI, true)], 928⟩, rc := ⟨[], [], [], [], [928], [], 928⟩, r := ⟨[], [], [], 928⟩, F := take_Page_l0 }
def take_Page_L1 : LoopSum := { hc := ⟨[], [0, 2, 3], [], [], [0, 16, 32, 480, 608], [592], 784⟩, h := ⟨[(0, (.fn 302 (.cons (.pvar 608 []) .nil) .undef)), (2, (.d cI)), (3, (.d cI))], [(0, (.d cHeap)), (16, (.d (.sl (.arr 4 cI)))), (32, (.d cI)), (480, (.d cHeap)), (608, (.row 592))], [(592, cI, true)], 784⟩, xid := 0, oc := ⟨[], [], [], [], [0, 16, 32, 480, 608], [592], 784⟩, o := ⟨[], [(0, (.d cHeap)), (16, (.d (.sl (.arr 4 cI)))), (32, (.d cI)), (480, (.d cHeap)), (608, (.row 592))], [(592, cI, true)], 784⟩, rc := ⟨[], [], [], [], [784], [], 784⟩, r := ⟨[], [], [], 784⟩, F := take_Page_l1 }
def take_Page_L2 : LoopSum := { hc := ⟨[], [0, 1], [], [], [0, 16, 32, 608, 800], [1793], 1921⟩, h := ⟨[(0, (.fn 302 (.cons (.pvar 608 []) .nil) .undef)), (1, (.d cI))], [(0, (.d cHeap)), (16, (.d (.sl (.arr 4 cI)))), (32, (.d cI)), (608, (.row 1793)), (800, (.cons (.pvar 608 []) (.d .nil)))], [(1793, cI, true)], 1921⟩, xid := 0, oc := ⟨[], [], [], [], [0, 16, 32, 608, 800], [1793], 1921⟩, o := ⟨[], [(0, (.d cHeap)), (16, (.d (.sl (.arr 4 cI)))), (32, (.d cI)), (608, (.row 1793)), (800, (.cons (.pvar 608 []) (.d .nil)))], [(1793, cI, true)], 1921⟩, rc := ⟨[], [], [], [], [1921], [], 1921⟩, r := ⟨[], [], [], 1921⟩, F := take_Page_l2 }
def take_Page_L3 : LoopSum := { hc := ⟨[], [1, 6, 11, 12, 13], [(.key 608 [], cI)], [], [0, 16, 32, 608, 800], [], 896⟩, h := ⟨[(1, (.fn 242 .nil (.cons (.pvar 32 []) (.cons (.pvar 16 []) .nil)))), (6, (.pvar 800 [])), (11, (.d (.sl cSpan))), (12, (.d cI)), (13, (.d cI))], [(0, (.d cHeap)), (16, (.d (.sl (.arr 4 cI)))), (32, (.d cI)), (608, (.row 896)), (800, (.cons (.pvar 608 []) (.d .nil)))], [(896, cI, true)], 897⟩, xid := 0, oc := ⟨[], [6], [(.key 608 [], cI)], [], [0, 608, 800], [], 896⟩, o := ⟨[(6, (.pvar 800 []))], [(0, (.d cHeap)), (608, (.row 896)), (800, (.cons (.pvar 608 []) (.d .nil)))], [(896, cI, true)], 897⟩, rc := ⟨[], [], [], [], [896], [], 896⟩, r := ⟨[], [], [], 896⟩, F := take_Page_l3 }
def take_Page_L4 : LoopSum := { hc := ⟨[], [0, 1, 2, 7], [], [], [1297, 1425], [1409], 1745⟩, h := ⟨[(0, (.fn 302 (.cons (.pvar 1425 []) .nil) .undef)), (1, (.d cI)), (2, (.d cI)), (7, (.d cI))], [(1297, (.d cHeap)), (1425, (.row 1409))], [(1409, cI, true)], 1745⟩, xid := 0, oc := ⟨[], [1, 7], [], [], [1297, 1425], [1409], 1745⟩, o := ⟨[(1, (.d cI)), (7, (.d cI))], [(1297, (.d cHeap)), (1425, (.row 1409))], [(1409, cI, true)], 1745⟩, rc := ⟨[], [], [], [], [1745], [], 1745⟩, r := ⟨[], [], [], 1745⟩, F := take_Page_l4 }
def take_Page_L5 : LoopSum := { hc := ⟨[], [0, 2, 3], [], [], [1297, 1425], [1409], 1601⟩, h := ⟨[(0, (.fn 302 (.cons (.pvar 1425 []) .nil) .undef)), (2, (.d cI)), (3, (.d cI))], [(1297, (.d cHeap)), (1425, (.row 1409))], [(1409, cI, true)], 1601⟩, xid := 0, oc := ⟨[], [], [], [], [1297, 1425], [1409], 1601⟩, o := ⟨[], [(1297, (.d cHeap)), (1425, (.row 1409))], [(1409, cI, true)], 1601⟩, rc := ⟨[], [], [], [], [1601], [], 1601⟩, r := ⟨[], [], [], 1601⟩, F := take_Page_l5 }
def take_Page_L6 : LoopSum := { hc := ⟨[], [0, 1], [], [], [1425, 1617], [2338], 2466⟩, h := ⟨[(0, (.fn 302 (.cons (.pvar 1425 []) .nil) .undef)), (1, (.d cI))], [(1425, (.row 2338)), (1617, (.cons (.pvar 1425 []) (.d .nil)))], [(2338, cI, true)], 2466⟩, xid := 0, oc := ⟨[], [], [], [], [1425, 1617], [2338], 2466⟩, o := ⟨[], [(1425, (.row 2338)), (1617, (.cons (.pvar 1425 []) (.d .nil)))], [(2338, cI, true)], 2466⟩, rc := ⟨[], [], [], [], [2466], [], 2466⟩, r := ⟨[], [], [], 2466⟩, F := take_Page_l6 }
def take_Page_L7 : LoopSum := { hc := ⟨[], [1, 6, 11, 12, 13], [(.key 1425 [], cI)], [], [1425, 1617], [], 1713⟩, h := ⟨[(1, (.fn 243 .nil .nil)), (6, (.pvar 1617 [])), (11, (.d (.sl cSpan))), (12, (.d cI)), (13, (.d cI))], [(1425, (.row 1713)), (1617, (.cons (.pvar 1425 []) (.d .nil)))], [(1713, cI, true)], 1714⟩, xid := 0, oc := ⟨[], [6], [(.key 1425 [], cI)], [], [1425, 1617], [], 1713⟩, o := ⟨[(6, (.pvar 1617 []))], [(1425, (.row 1713)), (1617, (.cons (.pvar 1425 []) (.d .nil)))], [(1713, cI, true)], 1714⟩, rc := ⟨[], [], [], [], [1713], [], 1713⟩, r := ⟨[], [], [], 1713⟩, F := take_Page_l7 }
def take_Page_c : Ctx := ⟨[(167, take_Kept_sm), (240, take_open_sm), (243, take_Page_2_sm), (333, slices_Clone_int_sm), (336, queue_row_Len_sm)], [(241, Tryz.f241), (242, Tryz.f242), (295, Tryz.f295), (296, Tryz.f296), (297, Tryz.f297), (334, Tryz.f334), (335, Tryz.f335), (347, Tryz.f347), (348, Tryz.f348), (368, Tryz.f368), (369, Tryz.f369), (370, Tryz.f370)], [⟨4, 347, 880, 0, take_Page_L0⟩, ⟨5, 334, 672, 0, take_Page_L1⟩, ⟨4, 348, 1921, 0, take_Page_L2⟩, ⟨7, 241, 480, 0, take_Page_L3⟩, ⟨4, 347, 1697, 0, take_Page_L4⟩, ⟨5, 334, 1489, 0, take_Page_L5⟩, ⟨4, 348, 2466, 0, take_Page_L6⟩, ⟨7, 241, 1297, 0, take_Page_L7⟩]⟩
theorem take_Page_sem : SemOf Tryz.prog 179 take_Page_sm := semC (c := take_Page_c) Tryz.func179 (sc take_Kept_sem (sc take_open_sem (sc take_Page_2_sem (sc slices_Clone_int_sem (sc queue_row_Len_sem an))))) (fc (flC Tryz.func241) (fc (flC Tryz.func242) (fc (flC Tryz.func295) (fc (flC Tryz.func296) (fc (flC Tryz.func297) (fc (flC Tryz.func334) (fc (flC Tryz.func335) (fc (flC Tryz.func347) (fc (flC Tryz.func348) (fc (flC Tryz.func368) (fc (flC Tryz.func369) (fc (flC Tryz.func370) an)))))))))))) (ec (aeC [true, true, false, false, false] take_Page_s0 Tryz.func347) (ec (aeC [true, true, false, false] take_Page_s1 Tryz.func334) (ec (aeC [false, false] take_Page_s2 Tryz.func348) (ec (aeC [true, true, false, true, false, false] take_Page_s3 Tryz.func241) (ec (aeC [true, true, false, false, false] take_Page_s4 Tryz.func347) (ec (aeC [true, true, false, false] take_Page_s5 Tryz.func334) (ec (aeC [false, false] take_Page_s6 Tryz.func348) (ec (aeC [true, true, false, true, false, false] take_Page_s7 Tryz.func241) an)))))))) 8
end
end Go.Proofs.YtkjpakaidjpjgaaGreatDoor.Dfn
