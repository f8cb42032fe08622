/- What functions come to. Printed by a program of this session. -/
import Derived.Test.YtdokfjkihjkcmaaGreatDoorDenFw
namespace Go.Proofs.YtdokfjkihjkcmaaGreatDoor.Den
open Go
set_option maxRecDepth 100000
set_option linter.unusedVariables false
noncomputable section
def roots_Slot_r (a0 : List Val) (a1 : Int) : Option (Val × Int × Unit) :=
 bif decide (a1 < 0) then
  some ((0, 0, ()), 3, ())
 else
 bif decide (a1 ≥ (a0.length : Int)) then
  some ((0, 0, ()), 3, ())
 else
 bif decide (0 ≤ a1) then
  bif decide (a1 < (a0.length : Int)) then
   some (a0.getD a1.toNat (0, 0, ()), 0, ())
  else none
 else none
def roots_Slot (x : (List Val) × Int × Unit) : Option (Val × Int × Unit) := roots_Slot_r x.1 x.2.1
def roots_Slot_sm : Sum := ⟨(.cons (.sl cVal) (.cons cI .nil)), (.cons (.d cVal) (.cons (.d cI) .nil)), roots_Slot⟩
def roots_Slot_c : Ctx := ⟨[], [], []⟩
theorem roots_Slot_sem : SemOf Tryz.prog 207 roots_Slot_sm := semC (c := roots_Slot_c) Tryz.func207 an an an 8
def roots_Pop_r (a0 : List Val) : Option ((List Val) × Val × Int × Unit) :=
 bif decide ((wi64 ((a0.length : Int) - 1)) < 0) then
  some (a0, (0, 0, ()), 3, ())
 else
 bif decide (0 ≤ (wi64 ((a0.length : Int) - 1))) then
  bif decide ((wi64 ((a0.length : Int) - 1)) ≤ (a0.length : Int)) then
   (slices_Clone_api_Value ((a0.drop 0).take ((wi64 ((a0.length : Int) - 1)).toNat - 0), ())).bind fun y1 =>
   bif decide (0 ≤ (wi64 ((a0.length : Int) - 1))) then
    bif decide ((wi64 ((a0.length : Int) - 1)) < (a0.length : Int)) then
     some (y1.1, a0.getD (wi64 ((a0.length : Int) - 1)).toNat (0, 0, ()), 0, ())
    else none
   else none
  else none
 else none
def roots_Pop (x : (List Val) × Unit) : Option ((List Val) × Val × Int × Unit) := roots_Pop_r x.1
def roots_Pop_sm : Sum := ⟨(.cons (.sl cVal) .nil), (.cons (.d (.sl cVal)) (.cons (.d cVal) (.cons (.d cI) .nil))), roots_Pop⟩
def roots_Pop_c : Ctx := ⟨[(127, slices_Clone_api_Value_sm)], [], []⟩
theorem roots_Pop_sem : SemOf Tryz.prog 209 roots_Pop_sm := semC (c := roots_Pop_c) Tryz.func209 (sc slices_Clone_api_Value_sem an) an an 8
def op_within_r (a0 : Int) (a1 : Int) (a2 : Int) : Option (Int × Unit) :=
 bif decide (a0 < a1) then
  some (1, ())
 else
 bif decide (a0 > a2) then
  some (1, ())
 else
 some (0, ())
def op_within (x : Int × Val) : Option (Int × Unit) := op_within_r x.1 x.2.1 x.2.2.1
def op_within_sm : Sum := ⟨(.cons cI cVal), (.cons (.d cI) .nil), op_within⟩
def op_within_c : Ctx := ⟨[], [], []⟩
theorem op_within_sem : SemOf Tryz.prog 226 op_within_sm := semC (c := op_within_c) Tryz.func226 an an an 8
def word_Get_r (a0 : Int) : Option (Val × Unit) :=
 bif a0 == 0 then
  some ((0, 0, ()), ())
 else
 bif (bitsI .and .u64 a0 1) == 1 then
  some ((1, wi64 (shiftI false .u64 a0 1), ()), ())
 else
 some ((2, wi64 ((wi64 (shiftI false .u64 a0 1)) - 1), ()), ())
def word_Get (x : Int × Unit) : Option (Val × Unit) := word_Get_r x.1
def word_Get_sm : Sum := ⟨(.cons (.int .u64) .nil), (.cons (.cons (.d cI) (.cons (.d cI) .nil)) .nil), word_Get⟩
def word_Get_c : Ctx := ⟨[], [], []⟩
theorem word_Get_sem : SemOf Tryz.prog 104 word_Get_sm := semC (c := word_Get_c) Tryz.func104 an an an 8
def heap_page_r (a0 : Heap) (a1 : Int) : Option (Span × Bool × Unit) :=
 bif decide (a1 < 0) then
  some ((0, 0, 0, ()), false, ())
 else
 bif decide (a1 ≥ (a0.2.1.length : Int)) then
  some ((0, 0, 0, ()), false, ())
 else
 bif decide (0 ≤ a1) then
  bif decide (a1 < (a0.2.1.length : Int)) then
   some (a0.2.1.getD a1.toNat (0, 0, 0, ()), true, ())
  else none
 else none
def heap_page (x : Heap × Int × Unit) : Option (Span × Bool × Unit) := heap_page_r x.1 x.2.1
def heap_page_sm : Sum := ⟨(.cons cHeap (.cons cI .nil)), (.cons (.d cSpan) (.cons (.d .bool) .nil)), heap_page⟩
def heap_page_c : Ctx := ⟨[], [], []⟩
theorem heap_page_sem : SemOf Tryz.prog 97 heap_page_sm := semC (c := heap_page_c) Tryz.func97 an an an 8
def class_is_r (a0 : Int) : Option (Bool × Unit) :=
 bif decide (a0 ≥ 0) then
  some (decide (a0 < 4), ())
 else
 some (false, ())
def class_is (x : Int × Unit) : Option (Bool × Unit) := class_is_r x.1
def class_is_sm : Sum := ⟨(.cons cI .nil), (.cons (.d .bool) .nil), class_is⟩
def class_is_c : Ctx := ⟨[], [], []⟩
theorem class_is_sem : SemOf Tryz.prog 89 class_is_sm := semC (c := class_is_c) Tryz.func89 an an an 8
def class_Words_r (a0 : Int) : Option (Int × Unit) :=
 (class_is (a0, ())).bind fun y1 =>
 bif !y1.1 then
  some (0, ())
 else
 bif decide (0 ≤ a0) then
  bif decide (a0 < 4) then
   some (([2, 4, 8, 16] : List Int).getD a0.toNat 0, ())
  else none
 else none
def class_Words (x : Int × Unit) : Option (Int × Unit) := class_Words_r x.1
def class_Words_sm : Sum := ⟨(.cons cI .nil), (.cons (.d cI) .nil), class_Words⟩
def class_Words_c : Ctx := ⟨[(89, class_is_sm)], [], []⟩
theorem class_Words_sem : SemOf Tryz.prog 63 class_Words_sm := semC (c := class_Words_c) Tryz.func63 (sc class_is_sem an) an an 8
def arena_Place_r (a0 : Int) (a1 : Int) : Option (Int × Int × Bool × Unit) :=
 (class_Words (a0, ())).bind fun y1 =>
 bif y1.1 == 0 then
  some (0, 0, false, ())
 else
 bif decide (a1 < 0) then
  some (0, 0, false, ())
 else
 bif decide (a1 ≥ 512) then
  some (0, 0, false, ())
 else
 bif y1.1 == 0 then none else
 bif (a1.tmod y1.1) != 0 then
  some (0, 0, false, ())
 else
 bif y1.1 == 0 then none else
 some (wi64 (a1.tdiv 32), wi64 ((a1.tmod 32).tdiv y1.1), true, ())
def arena_Place (x : Val) : Option (Int × Int × Bool × Unit) := arena_Place_r x.1 x.2.1
def arena_Place_sm : Sum := ⟨cVal, (.cons (.d cI) (.cons (.d cI) (.cons (.d .bool) .nil))), arena_Place⟩
def arena_Place_c : Ctx := ⟨[(63, class_Words_sm)], [], []⟩
theorem arena_Place_sem : SemOf Tryz.prog 98 arena_Place_sm := semC (c := arena_Place_c) Tryz.func98 (sc class_Words_sem an) an an 8
def heap_Find_r (a0 : Heap) (a1 : Int) : Option (Int × Int × Bool × Unit) :=
 (heap_page (a0, wi64 (a1.tdiv 32), ())).bind fun y1 =>
 bif decide (a1 < 0) then
  some (0, 0, false, ())
 else
 bif !y1.2.1 then
  some (0, 0, false, ())
 else
 bif y1.1.1 == 0 then
  some (0, 0, false, ())
 else
 (arena_Place (y1.1.2.1, a1, ())).bind fun y2 =>
 some (y2.1, y2.2.1, y2.2.2.1, ())
def heap_Find (x : Heap × Int × Unit) : Option (Int × Int × Bool × Unit) := heap_Find_r x.1 x.2.1
def heap_Find_sm : Sum := ⟨(.cons cHeap (.cons cI .nil)), (.cons (.d cI) (.cons (.d cI) (.cons (.d .bool) .nil))), heap_Find⟩
def heap_Find_c : Ctx := ⟨[(97, heap_page_sm), (98, arena_Place_sm)], [], []⟩
theorem heap_Find_sem : SemOf Tryz.prog 72 heap_Find_sm := semC (c := heap_Find_c) Tryz.func72 (sc heap_page_sem (sc arena_Place_sem an)) an an 8
def header_May_r (a0 : Hdr) : Option (Bool × Unit) :=
 bif !a0.1 then
  some ((a0.1 == false) && ((a0.2.1 == false) && ((a0.2.2.1 == 0) && ((a0.2.2.2.1 == 0) && true))), ())
 else
 bif decide (a0.2.2.1 ≥ 0) then
  bif decide (a0.2.2.1 < 4) then
   bif decide (a0.2.2.2.1 ≥ 0) then
    bif decide (a0.2.2.1 < 0) then none else
    some (decide (a0.2.2.2.1 < (shiftI true .i64 2 a0.2.2.1)), ())
   else
   some (false, ())
  else
  some (false, ())
 else
 some (false, ())
def header_May (x : Hdr × Unit) : Option (Bool × Unit) := header_May_r x.1
def header_May_sm : Sum := ⟨(.cons cHdr .nil), (.cons (.d .bool) .nil), header_May⟩
def header_May_c : Ctx := ⟨[], [], []⟩
theorem header_May_sem : SemOf Tryz.prog 124 header_May_sm := semC (c := header_May_c) Tryz.func124 an an an 8
def header_Put_r (a0 : Hdr) : Option (Int × Bool × Unit) :=
 (header_May (a0, ())).bind fun y1 =>
 bif !y1.1 then
  some (0, false, ())
 else
 bif !a0.1 then
  some (0, true, ())
 else
 bif a0.2.1 then
  some (bitsI .or .u64 (wu64 (bitsI .or .i64 (bitsI .or .i64 128 (shiftI true .i64 a0.2.2.1 4)) (shiftI true .i64 a0.2.2.2.1 0))) 64, true, ())
 else
 some (wu64 (bitsI .or .i64 (bitsI .or .i64 128 (shiftI true .i64 a0.2.2.1 4)) (shiftI true .i64 a0.2.2.2.1 0)), true, ())
def header_Put (x : Hdr × Unit) : Option (Int × Bool × Unit) := header_Put_r x.1
def header_Put_sm : Sum := ⟨(.cons cHdr .nil), (.cons (.d (.int .u64)) (.cons (.d .bool) .nil)), header_Put⟩
def header_Put_c : Ctx := ⟨[(124, header_May_sm)], [], []⟩
theorem header_Put_sem : SemOf Tryz.prog 99 header_Put_sm := semC (c := header_Put_c) Tryz.func99 (sc header_May_sem an) an an 8
def header_Get_r (a0 : Int) : Option (Hdr × Bool × Unit) :=
 (header_Put (((bitsI .and .u64 a0 128) != 0, (bitsI .and .u64 a0 64) != 0, wi64 (bitsI .and .u64 (shiftI false .u64 a0 4) 3), wi64 (bitsI .and .u64 (shiftI false .u64 a0 0) 15), ()), ())).bind fun y1 =>
 bif !y1.2.1 then
  some ((false, false, 0, 0, ()), false, ())
 else
 bif y1.1 != a0 then
  some ((false, false, 0, 0, ()), false, ())
 else
 some (((bitsI .and .u64 a0 128) != 0, (bitsI .and .u64 a0 64) != 0, wi64 (bitsI .and .u64 (shiftI false .u64 a0 4) 3), wi64 (bitsI .and .u64 (shiftI false .u64 a0 0) 15), ()), true, ())
def header_Get (x : Int × Unit) : Option (Hdr × Bool × Unit) := header_Get_r x.1
def header_Get_sm : Sum := ⟨(.cons (.int .u64) .nil), (.cons (.cons (.d .bool) (.cons (.d .bool) (.cons (.d cI) (.cons (.d cI) .nil)))) (.cons (.d .bool) .nil)), header_Get⟩
def header_Get_c : Ctx := ⟨[(99, header_Put_sm)], [], []⟩
theorem header_Get_sem : SemOf Tryz.prog 73 header_Get_sm := semC (c := header_Get_c) Tryz.func73 (sc header_Put_sem an) an an 8
def object_Get_r (a0 : Heap) (a1 : Int) : Option (Hdr × Bool × Unit) :=
 (heap_Find (a0, a1, ())).bind fun y1 =>
 bif !y1.2.2.1 then
  some ((false, false, 0, 0, ()), false, ())
 else
 bif decide (0 ≤ a1) then
  bif decide (a1 < (a0.1.length : Int)) then
   (header_Get (a0.1.getD a1.toNat 0, ())).bind fun y2 =>
   bif !y2.2.1 then
    some ((false, false, 0, 0, ()), false, ())
   else
   bif !y2.1.1 then
    some ((false, false, 0, 0, ()), false, ())
   else
   bif decide ((wi64 (a1 + y2.1.2.2.2.1)) ≥ (wi64 ((wi64 (y1.1 + 1)) * 32))) then
    some ((false, false, 0, 0, ()), false, ())
   else
   some ((y2.1.1, y2.1.2.1, y2.1.2.2.1, y2.1.2.2.2.1, ()), true, ())
  else none
 else none
def object_Get (x : Heap × Int × Unit) : Option (Hdr × Bool × Unit) := object_Get_r x.1 x.2.1
def object_Get_sm : Sum := ⟨(.cons cHeap (.cons cI .nil)), (.cons (.cons (.d .bool) (.cons (.d .bool) (.cons (.d cI) (.cons (.d cI) .nil)))) (.cons (.d .bool) .nil)), object_Get⟩
def object_Get_c : Ctx := ⟨[(72, heap_Find_sm), (73, header_Get_sm)], [], []⟩
theorem object_Get_sem : SemOf Tryz.prog 48 object_Get_sm := semC (c := object_Get_c) Tryz.func48 (sc heap_Find_sem (sc header_Get_sem an)) an an 8
def object_place_r (a0 : Heap) (a1 : Int) (a2 : Int) : Option Val :=
 (object_Get (a0, a1, ())).bind fun y1 =>
 bif !y1.2.1 then
  some (0, 1, ())
 else
 bif decide (a2 < 0) then
  some (0, 4, ())
 else
 bif decide (a2 ≥ y1.1.2.2.2.1) then
  some (0, 4, ())
 else
 some (wi64 ((wi64 (a1 + 1)) + a2), 0, ())
def object_place (x : Heap × Val) : Option Val := object_place_r x.1 x.2.1 x.2.2.1
def object_place_sm : Sum := ⟨(.cons cHeap cVal), (.cons (.d cI) (.cons (.d cI) .nil)), object_place⟩
def object_place_c : Ctx := ⟨[(48, object_Get_sm)], [], []⟩
theorem object_place_sem : SemOf Tryz.prog 147 object_place_sm := semC (c := object_place_c) Tryz.func147 (sc object_Get_sem an) an an 8
def object_Field_r (a0 : Heap) (a1 : Int) (a2 : Int) : Option (Val × Int × Unit) :=
 (object_place (a0, a1, a2, ())).bind fun y1 =>
 bif y1.2.1 != 0 then
  some ((0, 0, ()), y1.2.1, ())
 else
 bif decide (0 ≤ y1.1) then
  bif decide (y1.1 < (a0.1.length : Int)) then
   (word_Get (a0.1.getD y1.1.toNat 0, ())).bind fun y2 =>
   some ((y2.1.1, y2.1.2.1, ()), 0, ())
  else none
 else none
def object_Field (x : Heap × Val) : Option (Val × Int × Unit) := object_Field_r x.1 x.2.1 x.2.2.1
def object_Field_sm : Sum := ⟨(.cons cHeap cVal), (.cons (.cons (.d cI) (.cons (.d cI) .nil)) (.cons (.d cI) .nil)), object_Field⟩
def object_Field_c : Ctx := ⟨[(104, word_Get_sm), (147, object_place_sm)], [], []⟩
theorem object_Field_sem : SemOf Tryz.prog 131 object_Field_sm := semC (c := object_Field_c) Tryz.func131 (sc word_Get_sem (sc object_place_sem an)) an an 8
def roots_Object_r (a0 : List Val) (a1 : Int) : Option Val :=
 (roots_Slot (a0, a1, ())).bind fun y1 =>
 bif y1.2.1 != 0 then
  some (0, y1.2.1, ())
 else
 bif y1.1.1 == 0 then
  some (0, 2, ())
 else
 bif y1.1.1 != 2 then
  some (0, 7, ())
 else
 some (y1.1.2.1, 0, ())
def roots_Object (x : (List Val) × Int × Unit) : Option Val := roots_Object_r x.1 x.2.1
def roots_Object_sm : Sum := ⟨(.cons (.sl cVal) (.cons cI .nil)), (.cons (.d cI) (.cons (.d cI) .nil)), roots_Object⟩
def roots_Object_c : Ctx := ⟨[(207, roots_Slot_sm)], [], []⟩
theorem roots_Object_sem : SemOf Tryz.prog 218 roots_Object_sm := semC (c := roots_Object_c) Tryz.func218 (sc roots_Slot_sem an) an an 8
def op_field_r (a0 : Heap) (a1 : List Val) (a2 : Int × Int × Val) : Option (Int × Unit) :=
 (roots_Object (a1, a2.2.1, ())).bind fun y1 =>
 bif y1.2.1 != 0 then
  some (y1.2.1, ())
 else
 (object_Field (a0, y1.1, a2.2.2.1, ())).bind fun y2 =>
 some (y2.2.1, ())
def op_field (x : Heap × (List Val) × (Int × Int × Val) × Unit) : Option (Int × Unit) := op_field_r x.1 x.2.1 x.2.2.1
def op_field_sm : Sum := ⟨(.cons cHeap (.cons (.sl cVal) (.cons (.cons cI (.cons cI cVal)) .nil))), (.cons (.d cI) .nil), op_field⟩
def op_field_c : Ctx := ⟨[(131, object_Field_sm), (218, roots_Object_sm)], [], []⟩
theorem op_field_sem : SemOf Tryz.prog 227 op_field_sm := semC (c := op_field_c) Tryz.func227 (sc object_Field_sem (sc roots_Object_sem an)) an an 8
def op_own_r (a0 : Heap) (a1 : List Val) (a2 : Int × Int × Val) : Option (Int × Unit) :=
 bif a2.1 == 0 then
  (op_within (a2.2.1, 0, 15, ())).bind fun y1 =>
  some (y1.1, ())
 else
 bif a2.1 == 4 then
  (op_within (a2.2.1, 0, 1099511627776, ())).bind fun y2 =>
  some (y2.1, ())
 else
 bif a2.1 == 1 then
  (op_field (a0, a1, a2, ())).bind fun y3 =>
  bif y3.1 == 0 then
   bif a2.1 == 2 then
    (roots_Slot (a1, a2.2.2.2.1, ())).bind fun y4 =>
    some (y4.2.1, ())
   else
   some (y3.1, ())
  else
  some (y3.1, ())
 else
 bif a2.1 == 2 then
  (op_field (a0, a1, a2, ())).bind fun y5 =>
  bif y5.1 == 0 then
   bif a2.1 == 2 then
    (roots_Slot (a1, a2.2.2.2.1, ())).bind fun y6 =>
    some (y6.2.1, ())
   else
   some (y5.1, ())
  else
  some (y5.1, ())
 else
 bif a2.1 == 3 then
  (roots_Slot (a1, a2.2.1, ())).bind fun y7 =>
  some (y7.2.1, ())
 else
 bif a2.1 == 5 then
  (roots_Pop (a1, ())).bind fun y8 =>
  some (y8.2.2.1, ())
 else
 bif a2.1 == 6 then
  some (0, ())
 else
 some (1, ())
def op_own (x : Heap × (List Val) × (Int × Int × Val) × Unit) : Option (Int × Unit) := op_own_r x.1 x.2.1 x.2.2.1
def op_own_sm : Sum := ⟨(.cons cHeap (.cons (.sl cVal) (.cons (.cons cI (.cons cI cVal)) .nil))), (.cons (.d cI) .nil), op_own⟩
def op_own_c : Ctx := ⟨[(207, roots_Slot_sm), (209, roots_Pop_sm), (226, op_within_sm), (227, op_field_sm)], [], []⟩
theorem op_own_sem : SemOf Tryz.prog 215 op_own_sm := semC (c := op_own_c) Tryz.func215 (sc roots_Slot_sem (sc roots_Pop_sem (sc op_within_sem (sc op_field_sem an)))) an an 8
def op_Pushes_r (a0 : Int) : Option (Bool × Unit) :=
 bif a0 == 0 then
  some (true, ())
 else
 bif a0 == 1 then
  some (true, ())
 else
 bif a0 == 3 then
  some (true, ())
 else
 bif a0 == 4 then
  some (true, ())
 else
 some (false, ())
def op_Pushes (x : Int × Unit) : Option (Bool × Unit) := op_Pushes_r x.1
def op_Pushes_sm : Sum := ⟨(.cons cI .nil), (.cons (.d .bool) .nil), op_Pushes⟩
def op_Pushes_c : Ctx := ⟨[], [], []⟩
theorem op_Pushes_sem : SemOf Tryz.prog 216 op_Pushes_sm := semC (c := op_Pushes_c) Tryz.func216 an an an 8
def op_Check_r (a0 : Heap) (a1 : List Val) (a2 : Int) (a3 : Int × Int × Val) : Option (Int × Unit) :=
 (op_own (a0, a1, a3, ())).bind fun y1 =>
 bif y1.1 == 0 then
  (op_Pushes (a3.1, ())).bind fun y2 =>
  bif y2.1 then
   bif decide ((a1.length : Int) ≥ a2) then
    some (5, ())
   else
   some (y1.1, ())
  else
  some (y1.1, ())
 else
 some (y1.1, ())
def op_Check (x : Heap × (List Val) × Int × (Int × Int × Val) × Unit) : Option (Int × Unit) := op_Check_r x.1 x.2.1 x.2.2.1 x.2.2.2.1
def op_Check_sm : Sum := ⟨(.cons cHeap (.cons (.sl cVal) (.cons cI (.cons (.cons cI (.cons cI cVal)) .nil)))), (.cons (.d cI) .nil), op_Check⟩
def op_Check_c : Ctx := ⟨[(215, op_own_sm), (216, op_Pushes_sm)], [], []⟩
theorem op_Check_sem : SemOf Tryz.prog 205 op_Check_sm := semC (c := op_Check_c) Tryz.func205 (sc op_own_sem (sc op_Pushes_sem an)) an an 8
def roots_Push_r (a0 : List Val) (a1 : Int) (a2 : Val) : Option ((List Val) × Int × Unit) :=
 bif decide ((a0.length : Int) ≥ a1) then
  some (a0, 5, ())
 else
 (slices_Clone_api_Value (a0, ())).bind fun y1 =>
 bif decide ((y1.1.length + 1) * 16 ≤ 140737488355328) then
  some (y1.1 ++ [a2], 0, ())
 else none
def roots_Push (x : (List Val) × Int × Val × Unit) : Option ((List Val) × Int × Unit) := roots_Push_r x.1 x.2.1 x.2.2.1
def roots_Push_sm : Sum := ⟨(.cons (.sl cVal) (.cons cI (.cons cVal .nil))), (.cons (.d (.sl cVal)) (.cons (.d cI) .nil)), roots_Push⟩
def roots_Push_c : Ctx := ⟨[(127, slices_Clone_api_Value_sm)], [], []⟩
theorem roots_Push_sem : SemOf Tryz.prog 217 roots_Push_sm := semC (c := roots_Push_c) Tryz.func217 (sc slices_Clone_api_Value_sem an) an an 8
def cycle_Sweeper (_ : Wrld × Unit) : Option (Wrld × Int × Unit) := none
def cycle_Sweeper_sm : Sum := ⟨(.cons cWrld .nil), (.cons (.d cWrld) (.cons (.d cI) .nil)), cycle_Sweeper⟩
theorem cycle_Sweeper_sem : SemOf Tryz.prog 27 cycle_Sweeper_sm := semDead Tryz.func27 (fun _ => rfl)
def mark_Note (_ : Heap × Marker × Int × Val × Unit) : Option (Heap × Marker × Unit) := none
def mark_Note_sm : Sum := ⟨(.cons cHeap (.cons cMarker (.cons cI (.cons cVal .nil)))), (.cons (.d cHeap) (.cons (.d cMarker) .nil)), mark_Note⟩
theorem mark_Note_sem : SemOf Tryz.prog 219 mark_Note_sm := semDead Tryz.func219 (fun _ => rfl)
abbrev cycle_Caches_h0 : U := (.cons (.sl cMut) (.cons cI (.cons cI (.cons (.sl (.arr 4 cI)) .nil))))
abbrev cycle_Caches_o0 : U := (.cons (.sl (.arr 4 cI)) .nil)
abbrev cycle_Caches_e0 : U := .nil
def cycle_Caches_s0r (v7 : List Mut) (v8 : Int) (v9 : Int) (r112 : List (List Int)) : Option (SRes cycle_Caches_h0 cycle_Caches_o0 cycle_Caches_e0) :=
 bif decide (v9 < v8) then
  bif decide (0 ≤ v9) then
   bif decide (v9 < (v7.length : Int)) then
    bif decide ((r112.length + 1) * 32 ≤ 140737488355328) then
     some (.next (v7, v8, wi64 (v9 + 1), r112 ++ [(v7.getD v9.toNat ([], 0, (0, 0, 0, 0, ()), 0, (0, 0, ()), List.replicate 4 0, ())).2.2.2.2.2.1], ()))
    else none
   else none
  else none
 else
 some (.fin (.out (r112, ())))
def cycle_Caches_s0 (x : cycle_Caches_h0.T) : Option (SRes cycle_Caches_h0 cycle_Caches_o0 cycle_Caches_e0) := cycle_Caches_s0r x.1 x.2.1 x.2.2.1 x.2.2.2.1
def cycle_Caches_l0 (x : cycle_Caches_h0.T) : Option (LRes cycle_Caches_o0 cycle_Caches_e0) := iterL cycle_Caches_s0 9223372036854775808 x
def cycle_Caches_r (a0 : Wrld) : Option ((List (List Int)) × Unit) :=
 (cycle_Caches_l0 (a0.2.2.1, (a0.2.2.1.length : Int), 0, [], ())).bind fun s1 => match s1 with
 | .out s1 =>
  some (s1.1, ())
 | .ret s1 =>
  none
def cycle_Caches (x : Wrld × Unit) : Option ((List (List Int)) × Unit) := cycle_Caches_r x.1
def cycle_Caches_sm : Sum := ⟨(.cons cWrld .nil), (.cons (.own (.arr 4 cI)) .nil), cycle_Caches⟩
def cycle_Caches_L0 : LoopSum := { hc := ⟨[], [3, 7, 8, 9], [(.tmp 3, (.arr 4 cI))], [], [], [], 112⟩, h := ⟨[(3, (.row 112)), (7, (.d (.sl cMut))), (8, (.d cI)), (9, (.d cI))], [], [(112, (.arr 4 cI), true)], 113, false⟩, xid := 0, oc := ⟨[], [3], [(.tmp 3, (.arr 4 cI))], [], [], [], 112⟩, o := ⟨[(3, (.row 112))], [], [(112, (.arr 4 cI), true)], 113, false⟩, rc := ⟨[], [], [], [], [112], [], 112⟩, r := ⟨[], [], [], 112, false⟩, F := cycle_Caches_l0 }
def cycle_Caches_c : Ctx := ⟨[], [], [⟨8, 36, 0, 0, cycle_Caches_L0⟩]⟩
theorem cycle_Caches_sem : SemOf Tryz.prog 36 cycle_Caches_sm := semC (c := cycle_Caches_c) Tryz.func36 an an (ec (aeC [true, true, false, true, false, false] cycle_Caches_s0 Tryz.func36) an) 8
def take_Take (_ : Heap × (List (List Int)) × Val) : Option (Heap × (List (List Int)) × Int × Bool × Unit) := none
def take_Take_sm : Sum := ⟨(.cons cHeap (.cons (.sl (.arr 4 cI)) cVal)), (.cons (.d cHeap) (.cons (.d (.sl (.arr 4 cI))) (.cons (.d cI) (.cons (.d .bool) .nil)))), take_Take⟩
theorem take_Take_sem : SemOf Tryz.prog 211 take_Take_sm := semDead Tryz.func211 (fun _ => rfl)
def object_Set (_ : Heap × Int × Int × Val × Unit) : Option (Heap × Int × Unit) := none
def object_Set_sm : Sum := ⟨(.cons cHeap (.cons cI (.cons cI (.cons cVal .nil)))), (.cons (.d cHeap) (.cons (.d cI) .nil)), object_Set⟩
theorem object_Set_sem : SemOf Tryz.prog 214 object_Set_sm := semDead Tryz.func214 (fun _ => rfl)
def mut_Turn_r (a0 : Wrld) (a1 : Int) (a2 : Int × Int × Val) : Option (Wrld × (Int × Int × Int × Val × Unit) × Unit) :=
 bif decide (0 ≤ a1) then
  bif decide (a1 < (a0.2.2.1.length : Int)) then
   bif (a0.2.2.1.getD a1.toNat ([], 0, (0, 0, 0, 0, ()), 0, (0, 0, ()), List.replicate 4 0, ())).2.1 == 0 then
    (op_Check (a0.2.1, (a0.2.2.1.getD a1.toNat ([], 0, (0, 0, 0, 0, ()), 0, (0, 0, ()), List.replicate 4 0, ())).1, a0.1.2.2.1, a2, ())).bind fun y1 =>
    bif y1.1 != 0 then
     (slices_Clone_api_Mutator (a0.2.2.1, ())).bind fun y2 =>
     bif decide (0 ≤ a1) then
      bif decide (a1 < (y2.1.length : Int)) then
       some ((a0.1, a0.2.1, y2.1.set a1.toNat ((a0.2.2.1.getD a1.toNat ([], 0, (0, 0, 0, 0, ()), 0, (0, 0, ()), List.replicate 4 0, ())).1, 0, (0, 0, 0, 0, ()), 0, (0, 0, ()), (a0.2.2.1.getD a1.toNat ([], 0, (0, 0, 0, 0, ()), 0, (0, 0, ()), List.replicate 4 0, ())).2.2.2.2.2.1, ()), a0.2.2.2), (a1, 2, y1.1, (0, 0, ()), ()), ())
      else none
     else none
    else
    bif a2.1 == 3 then
     (roots_Slot ((a0.2.2.1.getD a1.toNat ([], 0, (0, 0, 0, 0, ()), 0, (0, 0, ()), List.replicate 4 0, ())).1, a2.2.1, ())).bind fun y3 =>
     (roots_Push ((a0.2.2.1.getD a1.toNat ([], 0, (0, 0, 0, 0, ()), 0, (0, 0, ()), List.replicate 4 0, ())).1, a0.1.2.2.1, y3.1, ())).bind fun y4 =>
     (slices_Clone_api_Mutator (a0.2.2.1, ())).bind fun y5 =>
     bif decide (0 ≤ a1) then
      bif decide (a1 < (y5.1.length : Int)) then
       some ((a0.1, a0.2.1, y5.1.set a1.toNat (y4.1, 0, (0, 0, 0, 0, ()), 0, (0, 0, ()), (a0.2.2.1.getD a1.toNat ([], 0, (0, 0, 0, 0, ()), 0, (0, 0, ()), List.replicate 4 0, ())).2.2.2.2.2.1, ()), a0.2.2.2), (a1, 2, 0, y3.1, ()), ())
      else none
     else none
    else
    bif a2.1 == 4 then
     (roots_Push ((a0.2.2.1.getD a1.toNat ([], 0, (0, 0, 0, 0, ()), 0, (0, 0, ()), List.replicate 4 0, ())).1, a0.1.2.2.1, (1, a2.2.1, ()), ())).bind fun y6 =>
     (slices_Clone_api_Mutator (a0.2.2.1, ())).bind fun y7 =>
     bif decide (0 ≤ a1) then
      bif decide (a1 < (y7.1.length : Int)) then
       some ((a0.1, a0.2.1, y7.1.set a1.toNat (y6.1, 0, (0, 0, 0, 0, ()), 0, (0, 0, ()), (a0.2.2.1.getD a1.toNat ([], 0, (0, 0, 0, 0, ()), 0, (0, 0, ()), List.replicate 4 0, ())).2.2.2.2.2.1, ()), a0.2.2.2), (a1, 2, 0, (1, a2.2.1, ()), ()), ())
      else none
     else none
    else
    bif a2.1 == 5 then
     (roots_Pop ((a0.2.2.1.getD a1.toNat ([], 0, (0, 0, 0, 0, ()), 0, (0, 0, ()), List.replicate 4 0, ())).1, ())).bind fun y8 =>
     (slices_Clone_api_Mutator (a0.2.2.1, ())).bind fun y9 =>
     bif decide (0 ≤ a1) then
      bif decide (a1 < (y9.1.length : Int)) then
       some ((a0.1, a0.2.1, y9.1.set a1.toNat (y8.1, 0, (0, 0, 0, 0, ()), 0, (0, 0, ()), (a0.2.2.1.getD a1.toNat ([], 0, (0, 0, 0, 0, ()), 0, (0, 0, ()), List.replicate 4 0, ())).2.2.2.2.2.1, ()), a0.2.2.2), (a1, 2, 0, (0, 0, ()), ()), ())
      else none
     else none
    else
    bif a2.1 == 6 then
     (slices_Clone_api_Mutator (a0.2.2.1, ())).bind fun y10 =>
     bif decide (0 ≤ a1) then
      bif decide (a1 < (y10.1.length : Int)) then
       some ((a0.1, a0.2.1, y10.1.set a1.toNat ((a0.2.2.1.getD a1.toNat ([], 0, (0, 0, 0, 0, ()), 0, (0, 0, ()), List.replicate 4 0, ())).1, 0, (0, 0, 0, 0, ()), 0, (0, 0, ()), (a0.2.2.1.getD a1.toNat ([], 0, (0, 0, 0, 0, ()), 0, (0, 0, ()), List.replicate 4 0, ())).2.2.2.2.2.1, ()), a0.2.2.2.1, a0.2.2.2.2.1, true, a0.2.2.2.2.2.2), (a1, 2, 0, (0, 0, ()), ()), ())
      else none
     else none
    else
    bif a2.1 == 0 then
     (cycle_Sweeper (a0, ())).bind fun y11 =>
     (slices_Clone_api_Mutator (y11.1.2.2.1, ())).bind fun y12 =>
     bif decide (0 ≤ a1) then
      bif decide (a1 < (y12.1.length : Int)) then
       some ((y11.1.1, y11.1.2.1, y12.1.set a1.toNat ((a0.2.2.1.getD a1.toNat ([], 0, (0, 0, 0, 0, ()), 0, (0, 0, ()), List.replicate 4 0, ())).1, 1, a2, (a0.2.2.1.getD a1.toNat ([], 0, (0, 0, 0, 0, ()), 0, (0, 0, ()), List.replicate 4 0, ())).2.2.2), y11.1.2.2.2), (a1, 1, 0, (0, 0, ()), ()), ())
      else none
     else none
    else
    (roots_Object ((a0.2.2.1.getD a1.toNat ([], 0, (0, 0, 0, 0, ()), 0, (0, 0, ()), List.replicate 4 0, ())).1, a2.2.1, ())).bind fun y13 =>
    (object_Field (a0.2.1, y13.1, a2.2.2.1, ())).bind fun y14 =>
    bif a2.1 == 1 then
     (slices_Clone_api_Mutator (a0.2.2.1, ())).bind fun y15 =>
     bif decide (0 ≤ a1) then
      bif decide (a1 < (y15.1.length : Int)) then
       some ((a0.1, a0.2.1, y15.1.set a1.toNat ((a0.2.2.1.getD a1.toNat ([], 0, (0, 0, 0, 0, ()), 0, (0, 0, ()), List.replicate 4 0, ())).1, 3, a2, (a0.2.2.1.getD a1.toNat ([], 0, (0, 0, 0, 0, ()), 0, (0, 0, ()), List.replicate 4 0, ())).2.2.2.1, (y14.1.1, y14.1.2.1, ()), (a0.2.2.1.getD a1.toNat ([], 0, (0, 0, 0, 0, ()), 0, (0, 0, ()), List.replicate 4 0, ())).2.2.2.2.2), a0.2.2.2), (a1, 1, 0, (0, 0, ()), ()), ())
      else none
     else none
    else
    (roots_Slot ((a0.2.2.1.getD a1.toNat ([], 0, (0, 0, 0, 0, ()), 0, (0, 0, ()), List.replicate 4 0, ())).1, a2.2.2.2.1, ())).bind fun y16 =>
    bif a0.2.2.2.2.1 == 1 then
     (mark_Note (a0.2.1, a0.2.2.2.1, a1, (y14.1.1, y14.1.2.1, ()), ())).bind fun y17 =>
     (slices_Clone_api_Mutator (a0.2.2.1, ())).bind fun y18 =>
     bif decide (0 ≤ a1) then
      bif decide (a1 < (y18.1.length : Int)) then
       some ((a0.1, y17.1, y18.1.set a1.toNat ((a0.2.2.1.getD a1.toNat ([], 0, (0, 0, 0, 0, ()), 0, (0, 0, ()), List.replicate 4 0, ())).1, 4, a2, y13.1, y16.1, (a0.2.2.1.getD a1.toNat ([], 0, (0, 0, 0, 0, ()), 0, (0, 0, ()), List.replicate 4 0, ())).2.2.2.2.2), y17.2.1, a0.2.2.2.2), (a1, 1, 0, (0, 0, ()), ()), ())
      else none
     else none
    else
    (slices_Clone_api_Mutator (a0.2.2.1, ())).bind fun y19 =>
    bif decide (0 ≤ a1) then
     bif decide (a1 < (y19.1.length : Int)) then
      some ((a0.1, a0.2.1, y19.1.set a1.toNat ((a0.2.2.1.getD a1.toNat ([], 0, (0, 0, 0, 0, ()), 0, (0, 0, ()), List.replicate 4 0, ())).1, 4, a2, y13.1, y16.1, (a0.2.2.1.getD a1.toNat ([], 0, (0, 0, 0, 0, ()), 0, (0, 0, ()), List.replicate 4 0, ())).2.2.2.2.2), a0.2.2.2), (a1, 1, 0, (0, 0, ()), ()), ())
     else none
    else none
   else
   bif (a0.2.2.1.getD a1.toNat ([], 0, (0, 0, 0, 0, ()), 0, (0, 0, ()), List.replicate 4 0, ())).2.1 == 1 then
    (cycle_Caches (a0, ())).bind fun y20 =>
    (take_Take (a0.2.1, y20.1, a1, (a0.2.2.1.getD a1.toNat ([], 0, (0, 0, 0, 0, ()), 0, (0, 0, ()), List.replicate 4 0, ())).2.2.1.2.1, ())).bind fun y21 =>
    bif y21.2.2.2.1 then
     bif decide (0 ≤ a1) then
      bif decide (a1 < (y21.2.1.length : Int)) then
       (slices_Clone_api_Mutator (a0.2.2.1, ())).bind fun y22 =>
       bif decide (0 ≤ a1) then
        bif decide (a1 < (y22.1.length : Int)) then
         some ((a0.1, y21.1, y22.1.set a1.toNat ((a0.2.2.1.getD a1.toNat ([], 0, (0, 0, 0, 0, ()), 0, (0, 0, ()), List.replicate 4 0, ())).1, 2, (a0.2.2.1.getD a1.toNat ([], 0, (0, 0, 0, 0, ()), 0, (0, 0, ()), List.replicate 4 0, ())).2.2.1, y21.2.2.1, (a0.2.2.1.getD a1.toNat ([], 0, (0, 0, 0, 0, ()), 0, (0, 0, ()), List.replicate 4 0, ())).2.2.2.2.1, y21.2.1.getD a1.toNat (List.replicate 4 0), (a0.2.2.1.getD a1.toNat ([], 0, (0, 0, 0, 0, ()), 0, (0, 0, ()), List.replicate 4 0, ())).2.2.2.2.2.2), a0.2.2.2), (a1, 1, 0, (0, 0, ()), ()), ())
        else none
       else none
      else none
     else none
    else
    bif a0.2.2.2.2.1 == 2 then
     (cycle_Sweeper (a0, ())).bind fun y23 =>
     (slices_Clone_api_Mutator (y23.1.2.2.1, ())).bind fun y24 =>
     bif decide (0 ≤ a1) then
      bif decide (a1 < (y24.1.length : Int)) then
       some ((y23.1.1, y23.1.2.1, y24.1.set a1.toNat ((a0.2.2.1.getD a1.toNat ([], 0, (0, 0, 0, 0, ()), 0, (0, 0, ()), List.replicate 4 0, ())).1, 1, (a0.2.2.1.getD a1.toNat ([], 0, (0, 0, 0, 0, ()), 0, (0, 0, ()), List.replicate 4 0, ())).2.2), y23.1.2.2.2), (a1, 1, 0, (0, 0, ()), ()), ())
      else none
     else none
    else
    (slices_Clone_api_Mutator (a0.2.2.1, ())).bind fun y25 =>
    bif decide (0 ≤ a1) then
     bif decide (a1 < (y25.1.length : Int)) then
      some ((a0.1, a0.2.1, y25.1.set a1.toNat ((a0.2.2.1.getD a1.toNat ([], 0, (0, 0, 0, 0, ()), 0, (0, 0, ()), List.replicate 4 0, ())).1, 0, (0, 0, 0, 0, ()), 0, (0, 0, ()), (a0.2.2.1.getD a1.toNat ([], 0, (0, 0, 0, 0, ()), 0, (0, 0, ()), List.replicate 4 0, ())).2.2.2.2.2.1, ()), a0.2.2.2.1, a0.2.2.2.2.1, true, a0.2.2.2.2.2.2), (a1, 2, 6, (0, 0, ()), ()), ())
     else none
    else none
   else
   bif (a0.2.2.1.getD a1.toNat ([], 0, (0, 0, 0, 0, ()), 0, (0, 0, ()), List.replicate 4 0, ())).2.1 == 2 then
    (roots_Push ((a0.2.2.1.getD a1.toNat ([], 0, (0, 0, 0, 0, ()), 0, (0, 0, ()), List.replicate 4 0, ())).1, a0.1.2.2.1, (2, (a0.2.2.1.getD a1.toNat ([], 0, (0, 0, 0, 0, ()), 0, (0, 0, ()), List.replicate 4 0, ())).2.2.2.1, ()), ())).bind fun y26 =>
    (slices_Clone_api_Mutator (a0.2.2.1, ())).bind fun y27 =>
    bif decide (0 ≤ a1) then
     bif decide (a1 < (y27.1.length : Int)) then
      some ((a0.1, a0.2.1, y27.1.set a1.toNat (y26.1, 0, (0, 0, 0, 0, ()), 0, (0, 0, ()), (a0.2.2.1.getD a1.toNat ([], 0, (0, 0, 0, 0, ()), 0, (0, 0, ()), List.replicate 4 0, ())).2.2.2.2.2.1, ()), a0.2.2.2), (a1, 2, 0, (2, (a0.2.2.1.getD a1.toNat ([], 0, (0, 0, 0, 0, ()), 0, (0, 0, ()), List.replicate 4 0, ())).2.2.2.1, ()), ()), ())
     else none
    else none
   else
   bif (a0.2.2.1.getD a1.toNat ([], 0, (0, 0, 0, 0, ()), 0, (0, 0, ()), List.replicate 4 0, ())).2.1 == 3 then
    (roots_Push ((a0.2.2.1.getD a1.toNat ([], 0, (0, 0, 0, 0, ()), 0, (0, 0, ()), List.replicate 4 0, ())).1, a0.1.2.2.1, (a0.2.2.1.getD a1.toNat ([], 0, (0, 0, 0, 0, ()), 0, (0, 0, ()), List.replicate 4 0, ())).2.2.2.2.1, ())).bind fun y28 =>
    (slices_Clone_api_Mutator (a0.2.2.1, ())).bind fun y29 =>
    bif decide (0 ≤ a1) then
     bif decide (a1 < (y29.1.length : Int)) then
      some ((a0.1, a0.2.1, y29.1.set a1.toNat (y28.1, 0, (0, 0, 0, 0, ()), 0, (0, 0, ()), (a0.2.2.1.getD a1.toNat ([], 0, (0, 0, 0, 0, ()), 0, (0, 0, ()), List.replicate 4 0, ())).2.2.2.2.2.1, ()), a0.2.2.2), (a1, 2, 0, (a0.2.2.1.getD a1.toNat ([], 0, (0, 0, 0, 0, ()), 0, (0, 0, ()), List.replicate 4 0, ())).2.2.2.2.1, ()), ())
     else none
    else none
   else
   bif (a0.2.2.1.getD a1.toNat ([], 0, (0, 0, 0, 0, ()), 0, (0, 0, ()), List.replicate 4 0, ())).2.1 == 4 then
    (object_Set (a0.2.1, (a0.2.2.1.getD a1.toNat ([], 0, (0, 0, 0, 0, ()), 0, (0, 0, ()), List.replicate 4 0, ())).2.2.2.1, (a0.2.2.1.getD a1.toNat ([], 0, (0, 0, 0, 0, ()), 0, (0, 0, ()), List.replicate 4 0, ())).2.2.1.2.2.1, (a0.2.2.1.getD a1.toNat ([], 0, (0, 0, 0, 0, ()), 0, (0, 0, ()), List.replicate 4 0, ())).2.2.2.2.1, ())).bind fun y30 =>
    (slices_Clone_api_Mutator (a0.2.2.1, ())).bind fun y31 =>
    bif decide (0 ≤ a1) then
     bif decide (a1 < (y31.1.length : Int)) then
      some ((a0.1, y30.1, y31.1.set a1.toNat ((a0.2.2.1.getD a1.toNat ([], 0, (0, 0, 0, 0, ()), 0, (0, 0, ()), List.replicate 4 0, ())).1, 0, (0, 0, 0, 0, ()), 0, (0, 0, ()), (a0.2.2.1.getD a1.toNat ([], 0, (0, 0, 0, 0, ()), 0, (0, 0, ()), List.replicate 4 0, ())).2.2.2.2.2.1, ()), a0.2.2.2), (a1, 2, 0, (0, 0, ()), ()), ())
     else none
    else none
   else none
  else none
 else none
def mut_Turn (x : Wrld × Int × (Int × Int × Val) × Unit) : Option (Wrld × (Int × Int × Int × Val × Unit) × Unit) := mut_Turn_r x.1 x.2.1 x.2.2.1
def mut_Turn_sm : Sum := ⟨(.cons cWrld (.cons cI (.cons (.cons cI (.cons cI cVal)) .nil))), (.cons (.cons (.d cRep) (.cons (.d cHeap) (.cons (.own cMut) (.d (.cons cMarker (.cons cI (.cons .bool (.cons cI (.cons (.sl cRep) .nil))))))))) (.cons (.cons (.d cI) (.cons (.d cI) (.cons (.d cI) (.cons (.d cVal) .nil)))) .nil)), mut_Turn⟩
def mut_Turn_c : Ctx := ⟨[(27, cycle_Sweeper_sm), (36, cycle_Caches_sm), (131, object_Field_sm), (204, slices_Clone_api_Mutator_sm), (205, op_Check_sm), (207, roots_Slot_sm), (209, roots_Pop_sm), (211, take_Take_sm), (214, object_Set_sm), (217, roots_Push_sm), (218, roots_Object_sm), (219, mark_Note_sm)], [(199, Tryz.f199), (200, Tryz.f200), (201, Tryz.f201), (202, Tryz.f202), (203, Tryz.f203), (206, Tryz.f206), (208, Tryz.f208), (210, Tryz.f210), (212, Tryz.f212), (213, Tryz.f213)], []⟩
theorem mut_Turn_sem : SemOf Tryz.prog 198 mut_Turn_sm := semC (c := mut_Turn_c) Tryz.func198 (sc cycle_Sweeper_sem (sc cycle_Caches_sem (sc object_Field_sem (sc slices_Clone_api_Mutator_sem (sc op_Check_sem (sc roots_Slot_sem (sc roots_Pop_sem (sc take_Take_sem (sc object_Set_sem (sc roots_Push_sem (sc roots_Object_sem (sc mark_Note_sem an)))))))))))) (fc (flC Tryz.func199) (fc (flC Tryz.func200) (fc (flC Tryz.func201) (fc (flC Tryz.func202) (fc (flC Tryz.func203) (fc (flC Tryz.func206) (fc (flC Tryz.func208) (fc (flC Tryz.func210) (fc (flC Tryz.func212) (fc (flC Tryz.func213) an)))))))))) an 8
def cycle_within_r (a0 : Int) (a1 : Int) (a2 : Int) : Option (Bool × Unit) :=
 bif decide (a0 ≥ a1) then
  some (decide (a0 ≤ a2), ())
 else
 some (false, ())
def cycle_within (x : Int × Val) : Option (Bool × Unit) := cycle_within_r x.1 x.2.1 x.2.2.1
def cycle_within_sm : Sum := ⟨(.cons cI cVal), (.cons (.d .bool) .nil), cycle_within⟩
def cycle_within_c : Ctx := ⟨[], [], []⟩
theorem cycle_within_sem : SemOf Tryz.prog 24 cycle_within_sm := semC (c := cycle_within_c) Tryz.func24 an an an 8
def cycle_May_r (a0 : Rep) : Option (Bool × Unit) :=
 (cycle_within (a0.1, 1, 16, ())).bind fun y1 =>
 bif y1.1 then
  (cycle_within (a0.2.1, 1, 8, ())).bind fun y2 =>
  bif y2.1 then
   (cycle_within (a0.2.2.1, 1, 8, ())).bind fun y3 =>
   bif y3.1 then
    (cycle_within (a0.2.2.2.1, 0, 16, ())).bind fun y4 =>
    bif y4.1 then
     (cycle_within (a0.2.2.2.2.1, 0, 8, ())).bind fun y5 =>
     some (y5.1, ())
    else
    some (false, ())
   else
   some (false, ())
  else
  some (false, ())
 else
 some (false, ())
def cycle_May (x : Rep × Unit) : Option (Bool × Unit) := cycle_May_r x.1
def cycle_May_sm : Sum := ⟨(.cons cRep .nil), (.cons (.d .bool) .nil), cycle_May⟩
def cycle_May_c : Ctx := ⟨[(24, cycle_within_sm)], [], []⟩
theorem cycle_May_sem : SemOf Tryz.prog 12 cycle_May_sm := semC (c := cycle_May_c) Tryz.func12 (sc cycle_within_sem an) an an 8
def arena_New_r (a0 : Int) : Option ((List Int) × Int × Unit) :=
 bif decide (a0 < 1) then
  some ([], 1, ())
 else
 bif decide (a0 > 16) then
  some ([], 1, ())
 else
 bif (wi64 (a0 * 32)) == (wi64 (a0 * 32)) then
  bif decide (0 ≤ (wi64 (a0 * 32))) then
   bif decide ((wi64 (a0 * 32)).toNat * 8 ≤ 140737488355328) then
    some (List.replicate (wi64 (a0 * 32)).toNat (0 : Int), 0, ())
   else none
  else none
 else none
def arena_New (x : Int × Unit) : Option ((List Int) × Int × Unit) := arena_New_r x.1
def arena_New_sm : Sum := ⟨(.cons cI .nil), (.cons (.own (.int .u64)) (.cons (.d cI) .nil)), arena_New⟩
def arena_New_c : Ctx := ⟨[], [], []⟩
theorem arena_New_sem : SemOf Tryz.prog 25 arena_New_sm := semC (c := arena_New_c) Tryz.func25 an an an 8
def heap_New_r (a0 : Int) : Option (Heap × Int × Unit) :=
 (arena_New (a0, ())).bind fun y1 =>
 bif y1.2.1 != 0 then
  some (([], [], false, ()), y1.2.1, ())
 else
 bif a0 == a0 then
  bif decide (0 ≤ a0) then
   bif decide (a0.toNat * 24 ≤ 140737488355328) then
    some ((y1.1, List.replicate a0.toNat ((0, 0, 0, ()) : Span), false, ()), 0, ())
   else none
  else none
 else none
def heap_New (x : Int × Unit) : Option (Heap × Int × Unit) := heap_New_r x.1
def heap_New_sm : Sum := ⟨(.cons cI .nil), (.cons (.cons (.own (.int .u64)) (.cons (.own cSpan) (.cons (.d .bool) .nil))) (.cons (.d cI) .nil)), heap_New⟩
def heap_New_c : Ctx := ⟨[(25, arena_New_sm)], [], []⟩
theorem heap_New_sem : SemOf Tryz.prog 13 heap_New_sm := semC (c := heap_New_c) Tryz.func13 (sc arena_New_sem an) an an 8
abbrev world_New_h0 : U := (.cons cI (.cons cI (.cons cRep (.cons (.cons .bool .nil) (.cons cI (.cons .nil (.cons (.cons cI (.cons cI (.cons cI (.cons .bool .nil)))) (.cons cI (.cons .bool (.cons cI (.cons .nil (.cons cRep (.cons (.cons .bool .nil) (.cons cI (.cons .nil (.cons (.cons cI (.cons cI (.cons cI (.cons .bool .nil)))) (.cons cI (.cons .bool (.cons cI (.cons .nil (.cons (.sl (.int .u64)) (.cons (.sl cSpan) (.cons (.sl cMut) .nil)))))))))))))))))))))))
abbrev world_New_o0 : U := (.cons cRep (.cons (.cons .bool .nil) (.cons cI (.cons .nil (.cons (.cons cI (.cons cI (.cons cI (.cons .bool .nil)))) (.cons cI (.cons .bool (.cons cI (.cons .nil (.cons cRep (.cons (.cons .bool .nil) (.cons cI (.cons .nil (.cons (.cons cI (.cons cI (.cons cI (.cons .bool .nil)))) (.cons cI (.cons .bool (.cons cI (.cons .nil (.cons (.sl (.int .u64)) (.cons (.sl cSpan) (.cons (.sl cMut) .nil)))))))))))))))))))))
abbrev world_New_e0 : U := .nil
def world_New_s0r (v19 : Int) (v20 : Int) (c16_0 : Rep) (c16_1 : Bool × Unit) (c16_2 : Int) (c16_3 : Unit) (c16_4 : Int × Int × Int × Bool × Unit) (c16_5 : Int) (c16_6 : Bool) (c16_7 : Int) (c16_8 : Unit) (c128_0 : Rep) (c128_1 : Bool × Unit) (c128_2 : Int) (c128_3 : Unit) (c128_4 : Int × Int × Int × Bool × Unit) (c128_5 : Int) (c128_6 : Bool) (c128_7 : Int) (c128_8 : Unit) (r192 : List Int) (r193 : List Span) (r336 : List Mut) : Option (SRes world_New_h0 world_New_o0 world_New_e0) :=
 bif decide (v20 < v19) then
  bif decide ((r336.length + 1) * 120 ≤ 140737488355328) then
   some (.next (v19, wi64 (v20 + 1), c16_0, c16_1, c16_2, c16_3, c16_4, c16_5, c16_6, c16_7, c16_8, c128_0, c128_1, c128_2, c128_3, c128_4, c128_5, c128_6, c128_7, c128_8, r192, r193, r336 ++ [([], 0, (0, 0, 0, 0, ()), 0, (0, 0, ()), ([(-1), (-1), (-1), (-1)] : List Int), ())], ()))
  else none
 else
 some (.fin (.out (c16_0, c16_1, c16_2, c16_3, c16_4, c16_5, c16_6, c16_7, c16_8, c128_0, c128_1, c128_2, c128_3, c128_4, c128_5, c128_6, c128_7, c128_8, r192, r193, r336, ())))
def world_New_s0 (x : world_New_h0.T) : Option (SRes world_New_h0 world_New_o0 world_New_e0) := world_New_s0r x.1 x.2.1 x.2.2.1 x.2.2.2.1 x.2.2.2.2.1 x.2.2.2.2.2.1 x.2.2.2.2.2.2.1 x.2.2.2.2.2.2.2.1 x.2.2.2.2.2.2.2.2.1 x.2.2.2.2.2.2.2.2.2.1 x.2.2.2.2.2.2.2.2.2.2.1 x.2.2.2.2.2.2.2.2.2.2.2.1 x.2.2.2.2.2.2.2.2.2.2.2.2.1 x.2.2.2.2.2.2.2.2.2.2.2.2.2.1 x.2.2.2.2.2.2.2.2.2.2.2.2.2.2.1 x.2.2.2.2.2.2.2.2.2.2.2.2.2.2.2.1 x.2.2.2.2.2.2.2.2.2.2.2.2.2.2.2.2.1 x.2.2.2.2.2.2.2.2.2.2.2.2.2.2.2.2.2.1 x.2.2.2.2.2.2.2.2.2.2.2.2.2.2.2.2.2.2.1 x.2.2.2.2.2.2.2.2.2.2.2.2.2.2.2.2.2.2.2.1 x.2.2.2.2.2.2.2.2.2.2.2.2.2.2.2.2.2.2.2.2.1 x.2.2.2.2.2.2.2.2.2.2.2.2.2.2.2.2.2.2.2.2.2.1 x.2.2.2.2.2.2.2.2.2.2.2.2.2.2.2.2.2.2.2.2.2.2.1
def world_New_l0 (x : world_New_h0.T) : Option (LRes world_New_o0 world_New_e0) := iterL world_New_s0 9223372036854775808 x
def world_New_r (a0 : Rep) : Option (Wrld × Int × Unit) :=
 (cycle_May (a0, ())).bind fun y1 =>
 bif !y1.1 then
  some (((0, 0, 0, 0, 0, ()), ([], [], false, ()), [], ((0, [], ()), [], [], 0, 0, 0, false, ()), 0, false, 0, [], ()), 1, ())
 else
 (heap_New (a0.1, ())).bind fun y2 =>
 (world_New_l0 (a0.2.1, 0, (0, 0, 0, 0, 0, ()), (false, ()), 0, (), (0, 0, 0, false, ()), 0, false, 0, (), a0, (y2.1.2.2.1, ()), 0, (), (0, 0, 0, false, ()), 0, false, 0, (), y2.1.1, y2.1.2.1, [], ())).bind fun s3 => match s3 with
 | .out s3 =>
  some ((s3.2.2.2.2.2.2.2.2.2.1, (s3.2.2.2.2.2.2.2.2.2.2.2.2.2.2.2.2.2.2.1, s3.2.2.2.2.2.2.2.2.2.2.2.2.2.2.2.2.2.2.2.1, s3.2.2.2.2.2.2.2.2.2.2.1), s3.2.2.2.2.2.2.2.2.2.2.2.2.2.2.2.2.2.2.2.2.1, ((s3.2.2.2.2.2.2.2.2.2.2.2.1, [], s3.2.2.2.2.2.2.2.2.2.2.2.2.1), [], [], s3.2.2.2.2.2.2.2.2.2.2.2.2.2.1), s3.2.2.2.2.2.2.2.2.2.2.2.2.2.2.1, s3.2.2.2.2.2.2.2.2.2.2.2.2.2.2.2.1, s3.2.2.2.2.2.2.2.2.2.2.2.2.2.2.2.2.1, [], s3.2.2.2.2.2.2.2.2.2.2.2.2.2.2.2.2.2.1), 0, ())
 | .ret s3 =>
  none
def world_New (x : Rep × Unit) : Option (Wrld × Int × Unit) := world_New_r x.1
def world_New_sm : Sum := ⟨(.cons cRep .nil), (.cons (.cons (.d cRep) (.cons (.cons (.own (.int .u64)) (.cons (.own cSpan) (.d (.cons .bool .nil)))) (.cons (.own cMut) (.cons (.cons (.cons (.d cI) (.cons (.own cI) (.d .nil))) (.cons (.own cGrey) (.cons (.own cVal) (.d (.cons cI (.cons cI (.cons cI (.cons .bool .nil)))))))) (.cons (.d cI) (.cons (.d .bool) (.cons (.d cI) (.cons (.own cRep) (.d .nil))))))))) (.cons (.d cI) .nil)), world_New⟩
def world_New_L0 : LoopSum := { hc := ⟨[], [2, 4, 19, 20], [(.key 128 [.fld 2], cMut)], [], [16, 128], [192, 193], 336⟩, h := ⟨[(2, (.pvar 16 [])), (4, (.pvar 128 [])), (19, (.d cI)), (20, (.d cI))], [(16, (.cons (.d cRep) (.cons (.cons .nilsl (.cons .nilsl (.d (.cons .bool .nil)))) (.cons .nilsl (.cons (.cons (.cons (.d cI) (.cons .nilsl (.d .nil))) (.cons .nilsl (.cons .nilsl (.d (.cons cI (.cons cI (.cons cI (.cons .bool .nil)))))))) (.cons (.d cI) (.cons (.d .bool) (.cons (.d cI) (.cons .nilsl (.d .nil)))))))))), (128, (.cons (.d cRep) (.cons (.cons (.row 192) (.cons (.row 193) (.d (.cons .bool .nil)))) (.cons (.row 336) (.cons (.cons (.cons (.d cI) (.cons .nilsl (.d .nil))) (.cons .nilsl (.cons .nilsl (.d (.cons cI (.cons cI (.cons cI (.cons .bool .nil)))))))) (.cons (.d cI) (.cons (.d .bool) (.cons (.d cI) (.cons .nilsl (.d .nil))))))))))], [(192, (.int .u64), true), (193, cSpan, true), (336, cMut, true)], 337, false⟩, xid := 0, oc := ⟨[], [2, 4], [(.ptr 4 [.fld 2], cMut)], [], [16, 128], [192, 193], 336⟩, o := ⟨[(2, (.pvar 16 [])), (4, (.pvar 128 []))], [(16, (.cons (.d cRep) (.cons (.cons .nilsl (.cons .nilsl (.d (.cons .bool .nil)))) (.cons .nilsl (.cons (.cons (.cons (.d cI) (.cons .nilsl (.d .nil))) (.cons .nilsl (.cons .nilsl (.d (.cons cI (.cons cI (.cons cI (.cons .bool .nil)))))))) (.cons (.d cI) (.cons (.d .bool) (.cons (.d cI) (.cons .nilsl (.d .nil)))))))))), (128, (.cons (.d cRep) (.cons (.cons (.row 192) (.cons (.row 193) (.d (.cons .bool .nil)))) (.cons (.row 336) (.cons (.cons (.cons (.d cI) (.cons .nilsl (.d .nil))) (.cons .nilsl (.cons .nilsl (.d (.cons cI (.cons cI (.cons cI (.cons .bool .nil)))))))) (.cons (.d cI) (.cons (.d .bool) (.cons (.d cI) (.cons .nilsl (.d .nil))))))))))], [(192, (.int .u64), true), (193, cSpan, true), (336, cMut, true)], 337, false⟩, rc := ⟨[], [], [], [], [336], [], 336⟩, r := ⟨[], [], [], 336, false⟩, F := world_New_l0 }
def world_New_c : Ctx := ⟨[(12, cycle_May_sm), (13, heap_New_sm)], [], [⟨8, 6, 0, 0, world_New_L0⟩]⟩
theorem world_New_sem : SemOf Tryz.prog 6 world_New_sm := semC (c := world_New_c) Tryz.func6 (sc cycle_May_sem (sc heap_New_sem an)) an (ec (aeC [true, true, true, true, false, true, false, false] world_New_s0 Tryz.func6) an) 8
end
end Go.Proofs.YtdokfjkihjkcmaaGreatDoor.Den
