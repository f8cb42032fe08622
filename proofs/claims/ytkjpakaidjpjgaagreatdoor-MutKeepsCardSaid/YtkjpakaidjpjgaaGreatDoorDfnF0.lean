/- What functions come to. Printed by a program of this session. -/
import Derived.Test.YtkjpakaidjpjgaaGreatDoorDfnFw
namespace Go.Proofs.YtkjpakaidjpjgaaGreatDoor.Dfn
open Go
set_option maxRecDepth 100000
set_option linter.unusedVariables false
noncomputable section
def roots_Slot_r (a0 : List Val) (a1 : Int) : Option (Val × Int × Unit) :=
 bif decide (a1 < 0) then
  some ((0, 0, ()), 3, ())
 else
 bif decide (a1 ≥ (a0.length : Int)) then
  some ((0, 0, ()), 3, ())
 else
 bif decide (0 ≤ a1) then
  bif decide (a1 < (a0.length : Int)) then
   some (a0.getD a1.toNat (0, 0, ()), 0, ())
  else none
 else none
def roots_Slot (x : (List Val) × Int × Unit) : Option (Val × Int × Unit) := roots_Slot_r x.1 x.2.1
def roots_Slot_sm : Sum := ⟨(.cons (.sl cVal) (.cons cI .nil)), (.cons (.d cVal) (.cons (.d cI) .nil)), roots_Slot⟩
def roots_Slot_c : Ctx := ⟨[], [], []⟩
theorem roots_Slot_sem : SemOf Tryz.prog 97 roots_Slot_sm := semC (c := roots_Slot_c) Tryz.func97 an an an 8
def roots_Pop_r (a0 : List Val) : Option ((List Val) × Val × Int × Unit) :=
 bif decide ((wi64 ((a0.length : Int) - 1)) < 0) then
  some (a0, (0, 0, ()), 3, ())
 else
 bif decide (0 ≤ (wi64 ((a0.length : Int) - 1))) then
  bif decide ((wi64 ((a0.length : Int) - 1)) ≤ (a0.length : Int)) then
   (slices_Clone_api_Value ((a0.drop 0).take ((wi64 ((a0.length : Int) - 1)).toNat - 0), ())).bind fun y1 =>
   bif decide (0 ≤ (wi64 ((a0.length : Int) - 1))) then
    bif decide ((wi64 ((a0.length : Int) - 1)) < (a0.length : Int)) then
     some (y1.1, a0.getD (wi64 ((a0.length : Int) - 1)).toNat (0, 0, ()), 0, ())
    else none
   else none
  else none
 else none
def roots_Pop (x : (List Val) × Unit) : Option ((List Val) × Val × Int × Unit) := roots_Pop_r x.1
def roots_Pop_sm : Sum := ⟨(.cons (.sl cVal) .nil), (.cons (.d (.sl cVal)) (.cons (.d cVal) (.cons (.d cI) .nil))), roots_Pop⟩
def roots_Pop_c : Ctx := ⟨[(174, slices_Clone_api_Value_sm)], [], []⟩
theorem roots_Pop_sem : SemOf Tryz.prog 99 roots_Pop_sm := semC (c := roots_Pop_c) Tryz.func99 (sc slices_Clone_api_Value_sem an) an an 8
def op_within_r (a0 : Int) (a1 : Int) (a2 : Int) : Option (Int × Unit) :=
 bif decide (a0 < a1) then
  some (1, ())
 else
 bif decide (a0 > a2) then
  some (1, ())
 else
 some (0, ())
def op_within (x : Int × Val) : Option (Int × Unit) := op_within_r x.1 x.2.1 x.2.2.1
def op_within_sm : Sum := ⟨(.cons cI cVal), (.cons (.d cI) .nil), op_within⟩
def op_within_c : Ctx := ⟨[], [], []⟩
theorem op_within_sem : SemOf Tryz.prog 237 op_within_sm := semC (c := op_within_c) Tryz.func237 an an an 8
def roots_Object_r (a0 : List Val) (a1 : Int) : Option Val :=
 (roots_Slot (a0, a1, ())).bind fun y1 =>
 bif y1.2.1 != 0 then
  some (0, y1.2.1, ())
 else
 bif y1.1.1 == 0 then
  some (0, 2, ())
 else
 bif y1.1.1 != 2 then
  some (0, 7, ())
 else
 some (y1.1.2.1, 0, ())
def roots_Object (x : (List Val) × Int × Unit) : Option Val := roots_Object_r x.1 x.2.1
def roots_Object_sm : Sum := ⟨(.cons (.sl cVal) (.cons cI .nil)), (.cons (.d cI) (.cons (.d cI) .nil)), roots_Object⟩
def roots_Object_c : Ctx := ⟨[(97, roots_Slot_sm)], [], []⟩
theorem roots_Object_sem : SemOf Tryz.prog 175 roots_Object_sm := semC (c := roots_Object_c) Tryz.func175 (sc roots_Slot_sem an) an an 8
def heap_page_r (a0 : Heap) (a1 : Int) : Option (Span × Bool × Unit) :=
 bif decide (a1 < 0) then
  some ((0, 0, 0, ()), false, ())
 else
 bif decide (a1 ≥ (a0.2.1.length : Int)) then
  some ((0, 0, 0, ()), false, ())
 else
 bif decide (0 ≤ a1) then
  bif decide (a1 < (a0.2.1.length : Int)) then
   some (a0.2.1.getD a1.toNat (0, 0, 0, ()), true, ())
  else none
 else none
def heap_page (x : Heap × Int × Unit) : Option (Span × Bool × Unit) := heap_page_r x.1 x.2.1
def heap_page_sm : Sum := ⟨(.cons cHeap (.cons cI .nil)), (.cons (.d cSpan) (.cons (.d .bool) .nil)), heap_page⟩
def heap_page_c : Ctx := ⟨[], [], []⟩
theorem heap_page_sem : SemOf Tryz.prog 264 heap_page_sm := semC (c := heap_page_c) Tryz.func264 an an an 8
def class_is_r (a0 : Int) : Option (Bool × Unit) :=
 bif decide (a0 ≥ 0) then
  some (decide (a0 < 4), ())
 else
 some (false, ())
def class_is (x : Int × Unit) : Option (Bool × Unit) := class_is_r x.1
def class_is_sm : Sum := ⟨(.cons cI .nil), (.cons (.d .bool) .nil), class_is⟩
def class_is_c : Ctx := ⟨[], [], []⟩
theorem class_is_sem : SemOf Tryz.prog 222 class_is_sm := semC (c := class_is_c) Tryz.func222 an an an 8
def class_Words_r (a0 : Int) : Option (Int × Unit) :=
 (class_is (a0, ())).bind fun y1 =>
 bif !y1.1 then
  some (0, ())
 else
 bif decide (0 ≤ a0) then
  bif decide (a0 < 4) then
   some (([2, 4, 8, 16] : List Int).getD a0.toNat 0, ())
  else none
 else none
def class_Words (x : Int × Unit) : Option (Int × Unit) := class_Words_r x.1
def class_Words_sm : Sum := ⟨(.cons cI .nil), (.cons (.d cI) .nil), class_Words⟩
def class_Words_c : Ctx := ⟨[(222, class_is_sm)], [], []⟩
theorem class_Words_sem : SemOf Tryz.prog 153 class_Words_sm := semC (c := class_Words_c) Tryz.func153 (sc class_is_sem an) an an 8
def arena_Place_r (a0 : Int) (a1 : Int) : Option (Int × Int × Bool × Unit) :=
 (class_Words (a0, ())).bind fun y1 =>
 bif y1.1 == 0 then
  some (0, 0, false, ())
 else
 bif decide (a1 < 0) then
  some (0, 0, false, ())
 else
 bif decide (a1 ≥ 512) then
  some (0, 0, false, ())
 else
 bif y1.1 == 0 then none else
 bif (a1.tmod y1.1) != 0 then
  some (0, 0, false, ())
 else
 bif y1.1 == 0 then none else
 some (wi64 (a1.tdiv 32), wi64 ((a1.tmod 32).tdiv y1.1), true, ())
def arena_Place (x : Val) : Option (Int × Int × Bool × Unit) := arena_Place_r x.1 x.2.1
def arena_Place_sm : Sum := ⟨cVal, (.cons (.d cI) (.cons (.d cI) (.cons (.d .bool) .nil))), arena_Place⟩
def arena_Place_c : Ctx := ⟨[(153, class_Words_sm)], [], []⟩
theorem arena_Place_sem : SemOf Tryz.prog 265 arena_Place_sm := semC (c := arena_Place_c) Tryz.func265 (sc class_Words_sem an) an an 8
def heap_Find_r (a0 : Heap) (a1 : Int) : Option (Int × Int × Bool × Unit) :=
 (heap_page (a0, wi64 (a1.tdiv 32), ())).bind fun y1 =>
 bif decide (a1 < 0) then
  some (0, 0, false, ())
 else
 bif !y1.2.1 then
  some (0, 0, false, ())
 else
 bif y1.1.1 == 0 then
  some (0, 0, false, ())
 else
 (arena_Place (y1.1.2.1, a1, ())).bind fun y2 =>
 some (y2.1, y2.2.1, y2.2.2.1, ())
def heap_Find (x : Heap × Int × Unit) : Option (Int × Int × Bool × Unit) := heap_Find_r x.1 x.2.1
def heap_Find_sm : Sum := ⟨(.cons cHeap (.cons cI .nil)), (.cons (.d cI) (.cons (.d cI) (.cons (.d .bool) .nil))), heap_Find⟩
def heap_Find_c : Ctx := ⟨[(264, heap_page_sm), (265, arena_Place_sm)], [], []⟩
theorem heap_Find_sem : SemOf Tryz.prog 201 heap_Find_sm := semC (c := heap_Find_c) Tryz.func201 (sc heap_page_sem (sc arena_Place_sem an)) an an 8
def header_May_r (a0 : Hdr) : Option (Bool × Unit) :=
 bif !a0.1 then
  some ((a0.1 == false) && ((a0.2.1 == false) && ((a0.2.2.1 == 0) && ((a0.2.2.2.1 == 0) && true))), ())
 else
 bif decide (a0.2.2.1 ≥ 0) then
  bif decide (a0.2.2.1 < 4) then
   bif decide (a0.2.2.2.1 ≥ 0) then
    bif decide (a0.2.2.1 < 0) then none else
    some (decide (a0.2.2.2.1 < (shiftI true .i64 2 a0.2.2.1)), ())
   else
   some (false, ())
  else
  some (false, ())
 else
 some (false, ())
def header_May (x : Hdr × Unit) : Option (Bool × Unit) := header_May_r x.1
def header_May_sm : Sum := ⟨(.cons cHdr .nil), (.cons (.d .bool) .nil), header_May⟩
def header_May_c : Ctx := ⟨[], [], []⟩
theorem header_May_sem : SemOf Tryz.prog 300 header_May_sm := semC (c := header_May_c) Tryz.func300 an an an 8
def header_Put_r (a0 : Hdr) : Option (Int × Bool × Unit) :=
 (header_May (a0, ())).bind fun y1 =>
 bif !y1.1 then
  some (0, false, ())
 else
 bif !a0.1 then
  some (0, true, ())
 else
 bif a0.2.1 then
  some (bitsI .or .u64 (wu64 (bitsI .or .i64 (bitsI .or .i64 128 (shiftI true .i64 a0.2.2.1 4)) (shiftI true .i64 a0.2.2.2.1 0))) 64, true, ())
 else
 some (wu64 (bitsI .or .i64 (bitsI .or .i64 128 (shiftI true .i64 a0.2.2.1 4)) (shiftI true .i64 a0.2.2.2.1 0)), true, ())
def header_Put (x : Hdr × Unit) : Option (Int × Bool × Unit) := header_Put_r x.1
def header_Put_sm : Sum := ⟨(.cons cHdr .nil), (.cons (.d (.int .u64)) (.cons (.d .bool) .nil)), header_Put⟩
def header_Put_c : Ctx := ⟨[(300, header_May_sm)], [], []⟩
theorem header_Put_sem : SemOf Tryz.prog 250 header_Put_sm := semC (c := header_Put_c) Tryz.func250 (sc header_May_sem an) an an 8
def header_Get_r (a0 : Int) : Option (Hdr × Bool × Unit) :=
 (header_Put (((bitsI .and .u64 a0 128) != 0, (bitsI .and .u64 a0 64) != 0, wi64 (bitsI .and .u64 (shiftI false .u64 a0 4) 3), wi64 (bitsI .and .u64 (shiftI false .u64 a0 0) 15), ()), ())).bind fun y1 =>
 bif !y1.2.1 then
  some ((false, false, 0, 0, ()), false, ())
 else
 bif y1.1 != a0 then
  some ((false, false, 0, 0, ()), false, ())
 else
 some (((bitsI .and .u64 a0 128) != 0, (bitsI .and .u64 a0 64) != 0, wi64 (bitsI .and .u64 (shiftI false .u64 a0 4) 3), wi64 (bitsI .and .u64 (shiftI false .u64 a0 0) 15), ()), true, ())
def header_Get (x : Int × Unit) : Option (Hdr × Bool × Unit) := header_Get_r x.1
def header_Get_sm : Sum := ⟨(.cons (.int .u64) .nil), (.cons (.cons (.d .bool) (.cons (.d .bool) (.cons (.d cI) (.cons (.d cI) .nil)))) (.cons (.d .bool) .nil)), header_Get⟩
def header_Get_c : Ctx := ⟨[(250, header_Put_sm)], [], []⟩
theorem header_Get_sem : SemOf Tryz.prog 202 header_Get_sm := semC (c := header_Get_c) Tryz.func202 (sc header_Put_sem an) an an 8
def object_Get_r (a0 : Heap) (a1 : Int) : Option (Hdr × Bool × Unit) :=
 (heap_Find (a0, a1, ())).bind fun y1 =>
 bif !y1.2.2.1 then
  some ((false, false, 0, 0, ()), false, ())
 else
 bif decide (0 ≤ a1) then
  bif decide (a1 < (a0.1.length : Int)) then
   (header_Get (a0.1.getD a1.toNat 0, ())).bind fun y2 =>
   bif !y2.2.1 then
    some ((false, false, 0, 0, ()), false, ())
   else
   bif !y2.1.1 then
    some ((false, false, 0, 0, ()), false, ())
   else
   bif decide ((wi64 (a1 + y2.1.2.2.2.1)) ≥ (wi64 ((wi64 (y1.1 + 1)) * 32))) then
    some ((false, false, 0, 0, ()), false, ())
   else
   some ((y2.1.1, y2.1.2.1, y2.1.2.2.1, y2.1.2.2.2.1, ()), true, ())
  else none
 else none
def object_Get (x : Heap × Int × Unit) : Option (Hdr × Bool × Unit) := object_Get_r x.1 x.2.1
def object_Get_sm : Sum := ⟨(.cons cHeap (.cons cI .nil)), (.cons (.cons (.d .bool) (.cons (.d .bool) (.cons (.d cI) (.cons (.d cI) .nil)))) (.cons (.d .bool) .nil)), object_Get⟩
def object_Get_c : Ctx := ⟨[(201, heap_Find_sm), (202, header_Get_sm)], [], []⟩
theorem object_Get_sem : SemOf Tryz.prog 130 object_Get_sm := semC (c := object_Get_c) Tryz.func130 (sc heap_Find_sem (sc header_Get_sem an)) an an 8
def object_place_r (a0 : Heap) (a1 : Int) (a2 : Int) : Option Val :=
 (object_Get (a0, a1, ())).bind fun y1 =>
 bif !y1.2.1 then
  some (0, 1, ())
 else
 bif decide (a2 < 0) then
  some (0, 4, ())
 else
 bif decide (a2 ≥ y1.1.2.2.2.1) then
  some (0, 4, ())
 else
 some (wi64 ((wi64 (a1 + 1)) + a2), 0, ())
def object_place (x : Heap × Val) : Option Val := object_place_r x.1 x.2.1 x.2.2.1
def object_place_sm : Sum := ⟨(.cons cHeap cVal), (.cons (.d cI) (.cons (.d cI) .nil)), object_place⟩
def object_place_c : Ctx := ⟨[(130, object_Get_sm)], [], []⟩
theorem object_place_sem : SemOf Tryz.prog 183 object_place_sm := semC (c := object_place_c) Tryz.func183 (sc object_Get_sem an) an an 8
def word_Get_r (a0 : Int) : Option (Val × Unit) :=
 bif a0 == 0 then
  some ((0, 0, ()), ())
 else
 bif (bitsI .and .u64 a0 1) == 1 then
  some ((1, wi64 (shiftI false .u64 a0 1), ()), ())
 else
 some ((2, wi64 ((wi64 (shiftI false .u64 a0 1)) - 1), ()), ())
def word_Get (x : Int × Unit) : Option (Val × Unit) := word_Get_r x.1
def word_Get_sm : Sum := ⟨(.cons (.int .u64) .nil), (.cons (.cons (.d cI) (.cons (.d cI) .nil)) .nil), word_Get⟩
def word_Get_c : Ctx := ⟨[], [], []⟩
theorem word_Get_sem : SemOf Tryz.prog 223 word_Get_sm := semC (c := word_Get_c) Tryz.func223 an an an 8
def object_Field_r (a0 : Heap) (a1 : Int) (a2 : Int) : Option (Val × Int × Unit) :=
 (object_place (a0, a1, a2, ())).bind fun y1 =>
 bif y1.2.1 != 0 then
  some ((0, 0, ()), y1.2.1, ())
 else
 bif decide (0 ≤ y1.1) then
  bif decide (y1.1 < (a0.1.length : Int)) then
   (word_Get (a0.1.getD y1.1.toNat 0, ())).bind fun y2 =>
   some ((y2.1.1, y2.1.2.1, ()), 0, ())
  else none
 else none
def object_Field (x : Heap × Val) : Option (Val × Int × Unit) := object_Field_r x.1 x.2.1 x.2.2.1
def object_Field_sm : Sum := ⟨(.cons cHeap cVal), (.cons (.cons (.d cI) (.cons (.d cI) .nil)) (.cons (.d cI) .nil)), object_Field⟩
def object_Field_c : Ctx := ⟨[(183, object_place_sm), (223, word_Get_sm)], [], []⟩
theorem object_Field_sem : SemOf Tryz.prog 176 object_Field_sm := semC (c := object_Field_c) Tryz.func176 (sc object_place_sem (sc word_Get_sem an)) an an 8
def op_field_r (a0 : Heap) (a1 : List Val) (a2 : Int × Int × Val) : Option (Int × Unit) :=
 (roots_Object (a1, a2.2.1, ())).bind fun y1 =>
 bif y1.2.1 != 0 then
  some (y1.2.1, ())
 else
 (object_Field (a0, y1.1, a2.2.2.1, ())).bind fun y2 =>
 some (y2.2.1, ())
def op_field (x : Heap × (List Val) × (Int × Int × Val) × Unit) : Option (Int × Unit) := op_field_r x.1 x.2.1 x.2.2.1
def op_field_sm : Sum := ⟨(.cons cHeap (.cons (.sl cVal) (.cons (.cons cI (.cons cI cVal)) .nil))), (.cons (.d cI) .nil), op_field⟩
def op_field_c : Ctx := ⟨[(175, roots_Object_sm), (176, object_Field_sm)], [], []⟩
theorem op_field_sem : SemOf Tryz.prog 238 op_field_sm := semC (c := op_field_c) Tryz.func238 (sc roots_Object_sem (sc object_Field_sem an)) an an 8
def op_own_r (a0 : Heap) (a1 : List Val) (a2 : Int × Int × Val) : Option (Int × Unit) :=
 bif a2.1 == 0 then
  (op_within (a2.2.1, 0, 15, ())).bind fun y1 =>
  some (y1.1, ())
 else
 bif a2.1 == 4 then
  (op_within (a2.2.1, 0, 1099511627776, ())).bind fun y2 =>
  some (y2.1, ())
 else
 bif a2.1 == 1 then
  (op_field (a0, a1, a2, ())).bind fun y3 =>
  bif y3.1 == 0 then
   bif a2.1 == 2 then
    (roots_Slot (a1, a2.2.2.2.1, ())).bind fun y4 =>
    some (y4.2.1, ())
   else
   some (y3.1, ())
  else
  some (y3.1, ())
 else
 bif a2.1 == 2 then
  (op_field (a0, a1, a2, ())).bind fun y5 =>
  bif y5.1 == 0 then
   bif a2.1 == 2 then
    (roots_Slot (a1, a2.2.2.2.1, ())).bind fun y6 =>
    some (y6.2.1, ())
   else
   some (y5.1, ())
  else
  some (y5.1, ())
 else
 bif a2.1 == 3 then
  (roots_Slot (a1, a2.2.1, ())).bind fun y7 =>
  some (y7.2.1, ())
 else
 bif a2.1 == 5 then
  (roots_Pop (a1, ())).bind fun y8 =>
  some (y8.2.2.1, ())
 else
 bif a2.1 == 6 then
  some (0, ())
 else
 some (1, ())
def op_own (x : Heap × (List Val) × (Int × Int × Val) × Unit) : Option (Int × Unit) := op_own_r x.1 x.2.1 x.2.2.1
def op_own_sm : Sum := ⟨(.cons cHeap (.cons (.sl cVal) (.cons (.cons cI (.cons cI cVal)) .nil))), (.cons (.d cI) .nil), op_own⟩
def op_own_c : Ctx := ⟨[(97, roots_Slot_sm), (99, roots_Pop_sm), (237, op_within_sm), (238, op_field_sm)], [], []⟩
theorem op_own_sem : SemOf Tryz.prog 171 op_own_sm := semC (c := op_own_c) Tryz.func171 (sc roots_Slot_sem (sc roots_Pop_sem (sc op_within_sem (sc op_field_sem an)))) an an 8
def op_Pushes_r (a0 : Int) : Option (Bool × Unit) :=
 bif a0 == 0 then
  some (true, ())
 else
 bif a0 == 1 then
  some (true, ())
 else
 bif a0 == 3 then
  some (true, ())
 else
 bif a0 == 4 then
  some (true, ())
 else
 some (false, ())
def op_Pushes (x : Int × Unit) : Option (Bool × Unit) := op_Pushes_r x.1
def op_Pushes_sm : Sum := ⟨(.cons cI .nil), (.cons (.d .bool) .nil), op_Pushes⟩
def op_Pushes_c : Ctx := ⟨[], [], []⟩
theorem op_Pushes_sem : SemOf Tryz.prog 172 op_Pushes_sm := semC (c := op_Pushes_c) Tryz.func172 an an an 8
def op_Check_r (a0 : Heap) (a1 : List Val) (a2 : Int) (a3 : Int × Int × Val) : Option (Int × Unit) :=
 (op_own (a0, a1, a3, ())).bind fun y1 =>
 bif y1.1 == 0 then
  (op_Pushes (a3.1, ())).bind fun y2 =>
  bif y2.1 then
   bif decide ((a1.length : Int) ≥ a2) then
    some (5, ())
   else
   some (y1.1, ())
  else
  some (y1.1, ())
 else
 some (y1.1, ())
def op_Check (x : Heap × (List Val) × Int × (Int × Int × Val) × Unit) : Option (Int × Unit) := op_Check_r x.1 x.2.1 x.2.2.1 x.2.2.2.1
def op_Check_sm : Sum := ⟨(.cons cHeap (.cons (.sl cVal) (.cons cI (.cons (.cons cI (.cons cI cVal)) .nil)))), (.cons (.d cI) .nil), op_Check⟩
def op_Check_c : Ctx := ⟨[(171, op_own_sm), (172, op_Pushes_sm)], [], []⟩
theorem op_Check_sem : SemOf Tryz.prog 95 op_Check_sm := semC (c := op_Check_c) Tryz.func95 (sc op_own_sem (sc op_Pushes_sem an)) an an 8
def roots_Push_r (a0 : List Val) (a1 : Int) (a2 : Val) : Option ((List Val) × Int × Unit) :=
 bif decide ((a0.length : Int) ≥ a1) then
  some (a0, 5, ())
 else
 (slices_Clone_api_Value (a0, ())).bind fun y1 =>
 bif decide ((y1.1.length + 1) * 16 ≤ 140737488355328) then
  some (y1.1 ++ [a2], 0, ())
 else none
def roots_Push (x : (List Val) × Int × Val × Unit) : Option ((List Val) × Int × Unit) := roots_Push_r x.1 x.2.1 x.2.2.1
def roots_Push_sm : Sum := ⟨(.cons (.sl cVal) (.cons cI (.cons cVal .nil))), (.cons (.d (.sl cVal)) (.cons (.d cI) .nil)), roots_Push⟩
def roots_Push_c : Ctx := ⟨[(174, slices_Clone_api_Value_sm)], [], []⟩
theorem roots_Push_sem : SemOf Tryz.prog 173 roots_Push_sm := semC (c := roots_Push_c) Tryz.func173 (sc slices_Clone_api_Value_sem an) an an 8
abbrev cycle_Caches_h0 : U := (.cons (.sl cMut) (.cons cI (.cons cI (.cons (.sl (.arr 4 cI)) .nil))))
abbrev cycle_Caches_o0 : U := (.cons (.sl (.arr 4 cI)) .nil)
abbrev cycle_Caches_e0 : U := .nil
def cycle_Caches_s0r (v7 : List Mut) (v8 : Int) (v9 : Int) (r112 : List (List Int)) : Option (SRes cycle_Caches_h0 cycle_Caches_o0 cycle_Caches_e0) :=
 bif decide (v9 < v8) then
  bif decide (0 ≤ v9) then
   bif decide (v9 < (v7.length : Int)) then
    bif decide ((r112.length + 1) * 32 ≤ 140737488355328) then
     some (.next (v7, v8, wi64 (v9 + 1), r112 ++ [(v7.getD v9.toNat ([], 0, (0, 0, 0, 0, ()), 0, (0, 0, ()), List.replicate 4 0, ())).2.2.2.2.2.1], ()))
    else none
   else none
  else none
 else
 some (.fin (.out (r112, ())))
def cycle_Caches_s0 (x : cycle_Caches_h0.T) : Option (SRes cycle_Caches_h0 cycle_Caches_o0 cycle_Caches_e0) := cycle_Caches_s0r x.1 x.2.1 x.2.2.1 x.2.2.2.1
def cycle_Caches_l0 (x : cycle_Caches_h0.T) : Option (LRes cycle_Caches_o0 cycle_Caches_e0) := iterL cycle_Caches_s0 9223372036854775808 x
def cycle_Caches_r (a0 : Wrld) : Option ((List (List Int)) × Unit) :=
 (cycle_Caches_l0 (a0.2.2.1, (a0.2.2.1.length : Int), 0, [], ())).bind fun s1 => match s1 with
 | .out s1 =>
  some (s1.1, ())
 | .ret s1 =>
  none
def cycle_Caches (x : Wrld × Unit) : Option ((List (List Int)) × Unit) := cycle_Caches_r x.1
def cycle_Caches_sm : Sum := ⟨(.cons cWrld .nil), (.cons (.own (.arr 4 cI)) .nil), cycle_Caches⟩
def cycle_Caches_L0 : LoopSum := { hc := ⟨[], [3, 7, 8, 9], [(.tmp 3, (.arr 4 cI))], [], [], [], 112⟩, h := ⟨[(3, (.row 112)), (7, (.d (.sl cMut))), (8, (.d cI)), (9, (.d cI))], [], [(112, (.arr 4 cI), true)], 113⟩, xid := 0, oc := ⟨[], [3], [(.tmp 3, (.arr 4 cI))], [], [], [], 112⟩, o := ⟨[(3, (.row 112))], [], [(112, (.arr 4 cI), true)], 113⟩, rc := ⟨[], [], [], [], [112], [], 112⟩, r := ⟨[], [], [], 112⟩, F := cycle_Caches_l0 }
def cycle_Caches_c : Ctx := ⟨[], [], [⟨8, 75, 0, 0, cycle_Caches_L0⟩]⟩
theorem cycle_Caches_sem : SemOf Tryz.prog 75 cycle_Caches_sm := semC (c := cycle_Caches_c) Tryz.func75 an an (ec (aeC [true, true, false, true, false, false] cycle_Caches_s0 Tryz.func75) an) 8
def object_Black_r (a0 : Heap) (a1 : Int) : Option (Bool × Unit) :=
 (object_Get (a0, a1, ())).bind fun y1 =>
 bif y1.2.1 then
  some (y1.1.2.1 == a0.2.2.1, ())
 else
 some (false, ())
def object_Black (x : Heap × Int × Unit) : Option (Bool × Unit) := object_Black_r x.1 x.2.1
def object_Black_sm : Sum := ⟨(.cons cHeap (.cons cI .nil)), (.cons (.d .bool) .nil), object_Black⟩
def object_Black_c : Ctx := ⟨[(130, object_Get_sm)], [], []⟩
theorem object_Black_sem : SemOf Tryz.prog 136 object_Black_sm := semC (c := object_Black_c) Tryz.func136 (sc object_Get_sem an) an an 8
def sweep_dirty_r (a0 : Span) : Option (Bool × Unit) :=
 some (a0.1 == 2, ())
def sweep_dirty (x : Span × Unit) : Option (Bool × Unit) := sweep_dirty_r x.1
def sweep_dirty_sm : Sum := ⟨(.cons cSpan .nil), (.cons (.d .bool) .nil), sweep_dirty⟩
def sweep_dirty_c : Ctx := ⟨[], [], []⟩
theorem sweep_dirty_sem : SemOf Tryz.prog 161 sweep_dirty_sm := semC (c := sweep_dirty_c) Tryz.func161 an an an 8
abbrev sweep_Begin_h0 : U := (.cons cI (.cons cI (.cons (.cons .bool .nil) (.cons (.cons .bool .nil) (.cons (.sl (.int .u64)) (.cons (.sl cSpan) .nil))))))
abbrev sweep_Begin_o0 : U := (.cons (.cons .bool .nil) (.cons (.cons .bool .nil) (.cons (.sl (.int .u64)) (.cons (.sl cSpan) .nil))))
abbrev sweep_Begin_e0 : U := .nil
def sweep_Begin_s0r (v14 : Int) (v15 : Int) (c0 : Bool × Unit) (c16 : Bool × Unit) (r64 : List Int) (r112 : List Span) : Option (SRes sweep_Begin_h0 sweep_Begin_o0 sweep_Begin_e0) :=
 bif decide (v15 < v14) then
  bif decide (0 ≤ v15) then
   bif decide (v15 < (r112.length : Int)) then
    bif (r112.getD v15.toNat (0, 0, 0, ())).1 == 1 then
     bif decide (0 ≤ v15) then
      bif decide (v15 < (r112.length : Int)) then
       some (.next (v14, wi64 (v15 + 1), c0, c16, r64, r112.set v15.toNat (2, (r112.getD v15.toNat (0, 0, 0, ())).2), ()))
      else none
     else none
    else
    some (.next (v14, wi64 (v15 + 1), c0, c16, r64, r112, ()))
   else none
  else none
 else
 some (.fin (.out (c0, c16, r64, r112, ())))
def sweep_Begin_s0 (x : sweep_Begin_h0.T) : Option (SRes sweep_Begin_h0 sweep_Begin_o0 sweep_Begin_e0) := sweep_Begin_s0r x.1 x.2.1 x.2.2.1 x.2.2.2.1 x.2.2.2.2.1 x.2.2.2.2.2.1
def sweep_Begin_l0 (x : sweep_Begin_h0.T) : Option (LRes sweep_Begin_o0 sweep_Begin_e0) := iterL sweep_Begin_s0 9223372036854775808 x
def sweep_Begin_r (a0 : Heap) : Option (Heap × Unit) :=
 (slices_Clone_uint64 (a0.1, ())).bind fun y1 =>
 (slices_Clone_api_Span (a0.2.1, ())).bind fun y2 =>
 (sweep_Begin_l0 ((y2.1.length : Int), 0, a0.2.2, (false, ()), y1.1, y2.1, ())).bind fun s3 => match s3 with
 | .out s3 =>
  some ((s3.2.2.1, s3.2.2.2.1, s3.1), ())
 | .ret s3 =>
  none
def sweep_Begin (x : Heap × Unit) : Option (Heap × Unit) := sweep_Begin_r x.1
def sweep_Begin_sm : Sum := ⟨(.cons cHeap .nil), (.cons (.cons (.own (.int .u64)) (.cons (.own cSpan) (.d (.cons .bool .nil)))) .nil), sweep_Begin⟩
def sweep_Begin_L0 : LoopSum := { hc := ⟨[], [1, 2, 14, 15], [], [], [0, 16], [64, 112], 256⟩, h := ⟨[(1, (.pvar 0 [])), (2, (.pvar 16 [])), (14, (.d cI)), (15, (.d cI))], [(0, (.cons (.row 64) (.cons (.row 112) (.d (.cons .bool .nil))))), (16, (.cons .nilsl (.cons .nilsl (.d (.cons .bool .nil)))))], [(64, (.int .u64), true), (112, cSpan, true)], 256⟩, xid := 0, oc := ⟨[], [1, 2], [], [], [0, 16], [64, 112], 256⟩, o := ⟨[(1, (.pvar 0 [])), (2, (.pvar 16 []))], [(0, (.cons (.row 64) (.cons (.row 112) (.d (.cons .bool .nil))))), (16, (.cons .nilsl (.cons .nilsl (.d (.cons .bool .nil)))))], [(64, (.int .u64), true), (112, cSpan, true)], 256⟩, rc := ⟨[], [], [], [], [256], [], 256⟩, r := ⟨[], [], [], 256⟩, F := sweep_Begin_l0 }
def sweep_Begin_c : Ctx := ⟨[(163, slices_Clone_api_Span_sm), (228, slices_Clone_uint64_sm)], [], [⟨8, 162, 0, 0, sweep_Begin_L0⟩]⟩
theorem sweep_Begin_sem : SemOf Tryz.prog 162 sweep_Begin_sm := semC (c := sweep_Begin_c) Tryz.func162 (sc slices_Clone_api_Span_sem (sc slices_Clone_uint64_sem an)) an (ec (aeC [true, true, false, true, false, false] sweep_Begin_s0 Tryz.func162) an) 8
def class_Blocks_r (a0 : Int) : Option (Int × Unit) :=
 (class_is (a0, ())).bind fun y1 =>
 bif !y1.1 then
  some (0, ())
 else
 bif decide (0 ≤ a0) then
  bif decide (a0 < 4) then
   bif (([2, 4, 8, 16] : List Int).getD a0.toNat 0) == 0 then none else
   some (wi64 ((32 : Int).tdiv (([2, 4, 8, 16] : List Int).getD a0.toNat 0)), ())
  else none
 else none
def class_Blocks (x : Int × Unit) : Option (Int × Unit) := class_Blocks_r x.1
def class_Blocks_sm : Sum := ⟨(.cons cI .nil), (.cons (.d cI) .nil), class_Blocks⟩
def class_Blocks_c : Ctx := ⟨[(222, class_is_sm)], [], []⟩
theorem class_Blocks_sem : SemOf Tryz.prog 164 class_Blocks_sm := semC (c := class_Blocks_c) Tryz.func164 (sc class_is_sem an) an an 8
def span_inUse_r (a0 : Span) : Option (Bool × Unit) :=
 bif a0.1 == 1 then
  some (true, ())
 else
 some (a0.1 == 2, ())
def span_inUse (x : Span × Unit) : Option (Bool × Unit) := span_inUse_r x.1
def span_inUse_sm : Sum := ⟨(.cons cSpan .nil), (.cons (.d .bool) .nil), span_inUse⟩
def span_inUse_c : Ctx := ⟨[], [], []⟩
theorem span_inUse_sem : SemOf Tryz.prog 220 span_inUse_sm := semC (c := span_inUse_c) Tryz.func220 an an an 8
def bits_one_r (a0 : Int) : Option (Int × Unit) :=
 bif decide (a0 < 0) then
  some (0, ())
 else
 bif decide (a0 ≥ 32) then
  some (0, ())
 else
 bif decide (a0 < 0) then none else
 some (shiftI true .u32 1 a0, ())
def bits_one (x : Int × Unit) : Option (Int × Unit) := bits_one_r x.1
def bits_one_sm : Sum := ⟨(.cons cI .nil), (.cons (.d (.int .u32)) .nil), bits_one⟩
def bits_one_c : Ctx := ⟨[], [], []⟩
theorem bits_one_sem : SemOf Tryz.prog 332 bits_one_sm := semC (c := bits_one_c) Tryz.func332 an an an 8
def bits_Whole_r (a0 : Int) : Option (Int × Unit) :=
 bif decide (a0 ≥ 32) then
  some (4294967295, ())
 else
 (bits_one (bif decide (a0 < 0) then 0 else a0, ())).bind fun y1 =>
 some (wu32 (y1.1 - 1), ())
def bits_Whole (x : Int × Unit) : Option (Int × Unit) := bits_Whole_r x.1
def bits_Whole_sm : Sum := ⟨(.cons cI .nil), (.cons (.d (.int .u32)) .nil), bits_Whole⟩
def bits_Whole_c : Ctx := ⟨[(332, bits_one_sm)], [], []⟩
theorem bits_Whole_sem : SemOf Tryz.prog 289 bits_Whole_sm := semC (c := bits_Whole_c) Tryz.func289 (sc bits_one_sem an) an an 8
def span_whole_r (a0 : Int) : Option (Int × Unit) :=
 (class_Blocks (a0, ())).bind fun y1 =>
 (bits_Whole (y1.1, ())).bind fun y2 =>
 some (y2.1, ())
def span_whole (x : Int × Unit) : Option (Int × Unit) := span_whole_r x.1
def span_whole_sm : Sum := ⟨(.cons cI .nil), (.cons (.d (.int .u32)) .nil), span_whole⟩
def span_whole_c : Ctx := ⟨[(164, class_Blocks_sm), (289, bits_Whole_sm)], [], []⟩
theorem span_whole_sem : SemOf Tryz.prog 232 span_whole_sm := semC (c := span_whole_c) Tryz.func232 (sc class_Blocks_sem (sc bits_Whole_sem an)) an an 8
def bits_Has_r (a0 : Int) (a1 : Int) : Option (Bool × Unit) :=
 (bits_one (a1, ())).bind fun y1 =>
 some ((bitsI .and .u32 a0 y1.1) != 0, ())
def bits_Has (x : Int × Int × Unit) : Option (Bool × Unit) := bits_Has_r x.1 x.2.1
def bits_Has_sm : Sum := ⟨(.cons (.int .u32) (.cons cI .nil)), (.cons (.d .bool) .nil), bits_Has⟩
def bits_Has_c : Ctx := ⟨[(332, bits_one_sm)], [], []⟩
theorem bits_Has_sem : SemOf Tryz.prog 287 bits_Has_sm := semC (c := bits_Has_c) Tryz.func287 (sc bits_one_sem an) an an 8
def bits_With_r (a0 : Int) (a1 : Int) : Option (Int × Unit) :=
 (bits_one (a1, ())).bind fun y1 =>
 some (bitsI .or .u32 a0 y1.1, ())
def bits_With (x : Int × Int × Unit) : Option (Int × Unit) := bits_With_r x.1 x.2.1
def bits_With_sm : Sum := ⟨(.cons (.int .u32) (.cons cI .nil)), (.cons (.d (.int .u32)) .nil), bits_With⟩
def bits_With_c : Ctx := ⟨[(332, bits_one_sm)], [], []⟩
theorem bits_With_sem : SemOf Tryz.prog 288 bits_With_sm := semC (c := bits_With_c) Tryz.func288 (sc bits_one_sem an) an an 8
def span_Give_r (a0 : Span) (a1 : Int) : Option (Span × Bool × Unit) :=
 (span_inUse (a0, ())).bind fun y1 =>
 bif !y1.1 then
  some (a0, false, ())
 else
 (span_whole (a0.2.1, ())).bind fun y2 =>
 (bits_Has (y2.1, a1, ())).bind fun y3 =>
 bif !y3.1 then
  some (a0, false, ())
 else
 (bits_Has (a0.2.2.1, a1, ())).bind fun y4 =>
 bif y4.1 then
  some (a0, false, ())
 else
 (bits_With (a0.2.2.1, a1, ())).bind fun y5 =>
 some ((a0.1, a0.2.1, y5.1, a0.2.2.2), true, ())
def span_Give (x : Span × Int × Unit) : Option (Span × Bool × Unit) := span_Give_r x.1 x.2.1
def span_Give_sm : Sum := ⟨(.cons cSpan (.cons cI .nil)), (.cons (.d cSpan) (.cons (.d .bool) .nil)), span_Give⟩
def span_Give_c : Ctx := ⟨[(220, span_inUse_sm), (232, span_whole_sm), (287, bits_Has_sm), (288, bits_With_sm)], [], []⟩
theorem span_Give_sem : SemOf Tryz.prog 231 span_Give_sm := semC (c := span_Give_c) Tryz.func231 (sc span_inUse_sem (sc span_whole_sem (sc bits_Has_sem (sc bits_With_sem an)))) an an 8
def span_Empty_r (a0 : Span) : Option (Bool × Unit) :=
 (span_inUse (a0, ())).bind fun y1 =>
 bif y1.1 then
  (span_whole (a0.2.1, ())).bind fun y2 =>
  some (a0.2.2.1 == y2.1, ())
 else
 some (false, ())
def span_Empty (x : Span × Unit) : Option (Bool × Unit) := span_Empty_r x.1
def span_Empty_sm : Sum := ⟨(.cons cSpan .nil), (.cons (.d .bool) .nil), span_Empty⟩
def span_Empty_c : Ctx := ⟨[(220, span_inUse_sm), (232, span_whole_sm)], [], []⟩
theorem span_Empty_sem : SemOf Tryz.prog 166 span_Empty_sm := semC (c := span_Empty_c) Tryz.func166 (sc span_inUse_sem (sc span_whole_sem an)) an an 8
abbrev slices_Index_h0 : U := (.cons (.sl cI) (.cons cI cVal))
abbrev slices_Index_o0 : U := .nil
abbrev slices_Index_e0 : U := (.cons cI .nil)
def slices_Index_s0r (v0 : List Int) (v1 : Int) (v7 : Int) (v8 : Int) : Option (SRes slices_Index_h0 slices_Index_o0 slices_Index_e0) :=
 bif decide (v8 < v7) then
  bif decide (0 ≤ v8) then
   bif decide (v8 < (v0.length : Int)) then
    bif v1 == (v0.getD v8.toNat 0) then
     some (.fin (.ret (v8, ())))
    else
    some (.next (v0, v1, v7, wi64 (v8 + 1), ()))
   else none
  else none
 else
 some (.fin (.out ()))
def slices_Index_s0 (x : slices_Index_h0.T) : Option (SRes slices_Index_h0 slices_Index_o0 slices_Index_e0) := slices_Index_s0r x.1 x.2.1 x.2.2.1 x.2.2.2.1
def slices_Index_l0 (x : slices_Index_h0.T) : Option (LRes slices_Index_o0 slices_Index_e0) := iterL slices_Index_s0 9223372036854775808 x
def slices_Index_r (a0 : List Int) (a1 : Int) : Option (Int × Unit) :=
 (slices_Index_l0 (a0, a1, (a0.length : Int), 0, ())).bind fun s1 => match s1 with
 | .out s1 =>
  some ((-1), ())
 | .ret s1 =>
  some (s1.1, ())
def slices_Index (x : (List Int) × Int × Unit) : Option (Int × Unit) := slices_Index_r x.1 x.2.1
def slices_Index_sm : Sum := ⟨(.cons (.sl cI) (.cons cI .nil)), (.cons (.d cI) .nil), slices_Index⟩
def slices_Index_L0 : LoopSum := { hc := ⟨[], [0, 1, 7, 8], [], [], [], [], 64⟩, h := ⟨[(0, (.d (.sl cI))), (1, (.d cI)), (7, (.d cI)), (8, (.d cI))], [], [], 64⟩, xid := 0, oc := ⟨[], [], [], [], [], [], 64⟩, o := ⟨[], [], [], 64⟩, rc := ⟨[], [4], [], [], [], [], 64⟩, r := ⟨[(4, (.d cI))], [], [], 64⟩, F := slices_Index_l0 }
def slices_Index_c : Ctx := ⟨[], [], [⟨8, 269, 0, 0, slices_Index_L0⟩]⟩
theorem slices_Index_sem : SemOf Tryz.prog 269 slices_Index_sm := semC (c := slices_Index_c) Tryz.func269 an an (ec (aeC [true, false, true, false, false] slices_Index_s0 Tryz.func269) an) 8
def slices_Contains_r (a0 : List Int) (a1 : Int) : Option (Bool × Unit) :=
 (slices_Index (a0, a1, ())).bind fun y1 =>
 some (decide (y1.1 ≥ 0), ())
def slices_Contains (x : (List Int) × Int × Unit) : Option (Bool × Unit) := slices_Contains_r x.1 x.2.1
def slices_Contains_sm : Sum := ⟨(.cons (.sl cI) (.cons cI .nil)), (.cons (.d .bool) .nil), slices_Contains⟩
def slices_Contains_c : Ctx := ⟨[(269, slices_Index_sm)], [], []⟩
theorem slices_Contains_sem : SemOf Tryz.prog 212 slices_Contains_sm := semC (c := slices_Contains_c) Tryz.func212 (sc slices_Index_sem an) an an 8
abbrev take_Kept_h0 : U := (.cons (.sl (.arr 4 cI)) (.cons cI cVal))
abbrev take_Kept_o0 : U := .nil
abbrev take_Kept_e0 : U := (.cons cI .nil)
def take_Kept_s0r (v0 : List (List Int)) (v7 : Int) (v8 : Int) (c0 : Int) : Option (SRes take_Kept_h0 take_Kept_o0 take_Kept_e0) :=
 bif decide (v8 < v7) then
  bif decide (0 ≤ v8) then
   bif decide (v8 < (v0.length : Int)) then
    (slices_Contains (v0.getD v8.toNat (List.replicate 4 0), c0, ())).bind fun y1 =>
    bif y1.1 then
     some (.fin (.ret (v8, ())))
    else
    some (.next (v0, v7, wi64 (v8 + 1), c0, ()))
   else none
  else none
 else
 some (.fin (.out ()))
def take_Kept_s0 (x : take_Kept_h0.T) : Option (SRes take_Kept_h0 take_Kept_o0 take_Kept_e0) := take_Kept_s0r x.1 x.2.1 x.2.2.1 x.2.2.2.1
def take_Kept_l0 (x : take_Kept_h0.T) : Option (LRes take_Kept_o0 take_Kept_e0) := iterL take_Kept_s0 9223372036854775808 x
def take_Kept_r (a0 : List (List Int)) (a1 : Int) : Option (Bool × Unit) :=
 bif decide (a1 ≥ 0) then
  (take_Kept_l0 (a0, (a0.length : Int), 0, a1, ())).bind fun s2 => match s2 with
  | .out s2 =>
   some (false, ())
  | .ret s2 =>
   some (decide (s2.1 ≥ 0), ())
 else
 some (false, ())
def take_Kept (x : (List (List Int)) × Int × Unit) : Option (Bool × Unit) := take_Kept_r x.1 x.2.1
def take_Kept_sm : Sum := ⟨(.cons (.sl (.arr 4 cI)) (.cons cI .nil)), (.cons (.d .bool) .nil), take_Kept⟩
def take_Kept_L0 : LoopSum := { hc := ⟨[], [0, 1, 7, 8], [], [], [0], [], 320⟩, h := ⟨[(0, (.d (.sl (.arr 4 cI)))), (1, (.fn 234 .nil (.cons (.pvar 0 []) .nil))), (7, (.d cI)), (8, (.d cI))], [(0, (.d cI))], [], 320⟩, xid := 0, oc := ⟨[], [], [], [], [], [], 320⟩, o := ⟨[], [], [], 320⟩, rc := ⟨[], [4], [], [], [], [], 320⟩, r := ⟨[(4, (.d cI))], [], [], 320⟩, F := take_Kept_l0 }
def take_Kept_c : Ctx := ⟨[(212, slices_Contains_sm)], [(233, Tryz.f233), (234, Tryz.f234), (290, Tryz.f290)], [⟨6, 290, 256, 0, take_Kept_L0⟩]⟩
theorem take_Kept_sem : SemOf Tryz.prog 167 take_Kept_sm := semC (c := take_Kept_c) Tryz.func167 (sc slices_Contains_sem an) (fc (flC Tryz.func233) (fc (flC Tryz.func234) (fc (flC Tryz.func290) an))) (ec (aeC [true, false, true, false, false] take_Kept_s0 Tryz.func290) an) 8
def heap_Close_1_r (a0 : Span) : Option (Span × Bool × Unit) :=
 (span_Empty (a0, ())).bind fun y1 =>
 some ((0, 0, 0, ()), y1.1, ())
def heap_Close_1 (x : Span × Unit) : Option (Span × Bool × Unit) := heap_Close_1_r x.1
def heap_Close_1_sm : Sum := ⟨(.cons cSpan .nil), (.cons (.cons (.d cI) (.cons (.d cI) (.cons (.d (.int .u32)) .nil))) (.cons (.d .bool) .nil)), heap_Close_1⟩
def heap_Close_1_c : Ctx := ⟨[(166, span_Empty_sm)], [], []⟩
theorem heap_Close_1_sem : SemOf Tryz.prog 235 heap_Close_1_sm := semC (c := heap_Close_1_c) Tryz.func235 (sc span_Empty_sem an) an an 8
abbrev sweep_One_h0 : U := (.cons (.sl cSpan) (.cons cI (.cons cI (.cons cHeap (.cons (.cons .bool .nil) .nil)))))
abbrev sweep_One_o0 : U := (.cons cHeap (.cons (.cons .bool .nil) .nil))
abbrev sweep_One_e0 : U := (.cons cI (.cons cHeap (.cons (.cons .bool .nil) .nil)))
def sweep_One_s0r (v0 : List Span) (v7 : Int) (v8 : Int) (c0 : Heap) (c16 : Bool × Unit) : Option (SRes sweep_One_h0 sweep_One_o0 sweep_One_e0) :=
 bif decide (v8 < v7) then
  bif decide (0 ≤ v8) then
   bif decide (v8 < (v0.length : Int)) then
    (sweep_dirty (v0.getD v8.toNat (0, 0, 0, ()), ())).bind fun y1 =>
    bif y1.1 then
     some (.fin (.ret (v8, c0, c16, ())))
    else
    some (.next (v0, v7, wi64 (v8 + 1), c0, c16, ()))
   else none
  else none
 else
 some (.fin (.out (c0, c16, ())))
def sweep_One_s0 (x : sweep_One_h0.T) : Option (SRes sweep_One_h0 sweep_One_o0 sweep_One_e0) := sweep_One_s0r x.1 x.2.1 x.2.2.1 x.2.2.2.1 x.2.2.2.2.1
def sweep_One_l0 (x : sweep_One_h0.T) : Option (LRes sweep_One_o0 sweep_One_e0) := iterL sweep_One_s0 9223372036854775808 x
abbrev sweep_One_h1 : U := (.cons (.sl (.arr 4 cI)) (.cons cI (.cons cI (.cons cI (.cons cI (.cons cI (.cons (.cons .bool .nil) (.cons (.cons .bool .nil) (.cons (.sl (.int .u64)) (.cons (.sl cSpan) .nil))))))))))
abbrev sweep_One_o1 : U := (.cons (.sl (.arr 4 cI)) (.cons cI (.cons cI (.cons (.cons .bool .nil) (.cons (.cons .bool .nil) (.cons (.sl (.int .u64)) (.cons (.sl cSpan) .nil)))))))
abbrev sweep_One_e1 : U := .nil
def sweep_One_s1r (v1 : List (List Int)) (v8 : Int) (v9 : Int) (v11 : Int) (v37 : Int) (v38 : Int) (c16 : Bool × Unit) (c384 : Bool × Unit) (r560 : List Int) (r561 : List Span) : Option (SRes sweep_One_h1 sweep_One_o1 sweep_One_e1) :=
 bif decide (v38 < v37) then
  (class_Words (v9, ())).bind fun y6 =>
  (object_Get ((r560, r561, c384), wi64 ((wi64 (v8 * 32)) + (wi64 (v38 * y6.1))), ())).bind fun y7 =>
  bif !y7.2.1 then
   some (.next (v1, v8, v9, v11, v37, wi64 (v38 + 1), c16, c384, r560, r561, ()))
  else
  (object_Black ((r560, r561, c384), wi64 ((wi64 (v8 * 32)) + (wi64 (v38 * y6.1))), ())).bind fun y8 =>
  bif y8.1 then
   some (.next (v1, v8, v9, v11, v37, wi64 (v38 + 1), c16, c384, r560, r561, ()))
  else
  (heap_Find ((r560, r561, c384), wi64 ((wi64 (v8 * 32)) + (wi64 (v38 * y6.1))), ())).bind fun y9 =>
  bif !y9.2.2.1 then
   some (.next (v1, v8, v9, v11, v37, wi64 (v38 + 1), c16, c384, r560, r561, ()))
  else
  (heap_page ((r560, r561, c384), y9.1, ())).bind fun y10 =>
  bif !y10.2.1 then
   some (.next (v1, v8, v9, v11, v37, wi64 (v38 + 1), c16, c384, r560, r561, ()))
  else
  (span_Give (y10.1, y9.2.1, ())).bind fun y11 =>
  bif !y11.2.1 then
   some (.next (v1, v8, v9, v11, v37, wi64 (v38 + 1), c16, c384, r560, r561, ()))
  else
  (slices_Clone_uint64 (r560, ())).bind fun y12 =>
  (slices_Clone_api_Span (r561, ())).bind fun y13 =>
  bif decide (0 ≤ y9.1) then
   bif decide (y9.1 < (y13.1.length : Int)) then
    bif decide (0 ≤ y9.1) then
     bif decide (y9.1 < (r561.length : Int)) then
      (class_Words ((r561.getD y9.1.toNat (0, 0, 0, ())).2.1, ())).bind fun y14 =>
      bif decide (0 ≤ (wi64 ((wi64 (v8 * 32)) + (wi64 (v38 * y6.1))))) then
       bif decide ((wi64 ((wi64 (v8 * 32)) + (wi64 (v38 * y6.1)))) ≤ (wi64 ((wi64 ((wi64 (v8 * 32)) + (wi64 (v38 * y6.1)))) + y14.1))) then
        bif decide ((wi64 ((wi64 ((wi64 (v8 * 32)) + (wi64 (v38 * y6.1)))) + y14.1)) ≤ (y12.1.length : Int)) then
         (class_Words (v9, ())).bind fun y15 =>
         some (.next (v1, v8, v9, wi64 (v11 + y15.1), v37, wi64 (v38 + 1), c16, c384, segSet y12.1 (wi64 ((wi64 (v8 * 32)) + (wi64 (v38 * y6.1)))).toNat (List.replicate ((wi64 ((wi64 ((wi64 (v8 * 32)) + (wi64 (v38 * y6.1)))) + y14.1)).toNat - (wi64 ((wi64 (v8 * 32)) + (wi64 (v38 * y6.1)))).toNat) 0), y13.1.set y9.1.toNat y11.1, ()))
        else none
       else none
      else none
     else none
    else none
   else none
  else none
 else
 some (.fin (.out (v1, v8, v11, c16, c384, r560, r561, ())))
def sweep_One_s1 (x : sweep_One_h1.T) : Option (SRes sweep_One_h1 sweep_One_o1 sweep_One_e1) := sweep_One_s1r x.1 x.2.1 x.2.2.1 x.2.2.2.1 x.2.2.2.2.1 x.2.2.2.2.2.1 x.2.2.2.2.2.2.1 x.2.2.2.2.2.2.2.1 x.2.2.2.2.2.2.2.2.1 x.2.2.2.2.2.2.2.2.2.1
def sweep_One_l1 (x : sweep_One_h1.T) : Option (LRes sweep_One_o1 sweep_One_e1) := iterL sweep_One_s1 9223372036854775808 x
def sweep_One_r (a0 : Heap) (a1 : List (List Int)) : Option (Heap × Int × Int × Bool × Unit) :=
 (sweep_One_l0 (a0.2.1, (a0.2.1.length : Int), 0, a0, (false, ()), ())).bind fun s2 => match s2 with
 | .out s2 =>
  some (s2.1, 0, 0, false, ())
 | .ret s2 =>
  bif decide (s2.1 < 0) then
   some (s2.2.1, 0, 0, false, ())
  else
  bif decide (0 ≤ s2.1) then
   bif decide (s2.1 < (s2.2.1.2.1.length : Int)) then
    (sweep_Begin (s2.2.1, ())).bind fun y3 =>
    (slices_Clone_api_Span (s2.2.1.2.1, ())).bind fun y4 =>
    (class_Blocks ((s2.2.1.2.1.getD s2.1.toNat (0, 0, 0, ())).2.1, ())).bind fun y5 =>
    (sweep_One_l1 (a1, s2.1, (s2.2.1.2.1.getD s2.1.toNat (0, 0, 0, ())).2.1, 0, y5.1, 0, s2.2.2.1, y3.1.2.2, y3.1.1, y4.1, ())).bind fun s16 => match s16 with
    | .out s16 =>
     bif decide (0 ≤ s16.2.1) then
      bif decide (s16.2.1 < (s16.2.2.2.2.2.2.1.length : Int)) then
       bif decide (0 ≤ s16.2.1) then
        bif decide (s16.2.1 < ((s16.2.2.2.2.2.2.1.set s16.2.1.toNat (1, (s16.2.2.2.2.2.2.1.getD s16.2.1.toNat (0, 0, 0, ())).2)).length : Int)) then
         (span_Empty ((s16.2.2.2.2.2.2.1.set s16.2.1.toNat (1, (s16.2.2.2.2.2.2.1.getD s16.2.1.toNat (0, 0, 0, ())).2)).getD s16.2.1.toNat (0, 0, 0, ()), ())).bind fun y17 =>
         bif y17.1 then
          (take_Kept (s16.1, s16.2.1, ())).bind fun y18 =>
          bif !y18.1 then
           (heap_page ((s16.2.2.2.2.2.1, s16.2.2.2.2.2.2.1.set s16.2.1.toNat (1, (s16.2.2.2.2.2.2.1.getD s16.2.1.toNat (0, 0, 0, ())).2), s16.2.2.2.2.1), s16.2.1, ())).bind fun y19 =>
           bif !y19.2.1 then
            some ((s16.2.2.2.2.2.1, s16.2.2.2.2.2.2.1.set s16.2.1.toNat (1, (s16.2.2.2.2.2.2.1.getD s16.2.1.toNat (0, 0, 0, ())).2), s16.2.2.2.2.1), s16.2.1, s16.2.2.1, true, ())
           else
           (heap_Close_1 (y19.1, ())).bind fun y20 =>
           bif !y20.2.1 then
            some ((s16.2.2.2.2.2.1, s16.2.2.2.2.2.2.1.set s16.2.1.toNat (1, (s16.2.2.2.2.2.2.1.getD s16.2.1.toNat (0, 0, 0, ())).2), s16.2.2.2.2.1), s16.2.1, s16.2.2.1, true, ())
           else
           (slices_Clone_uint64 (s16.2.2.2.2.2.1, ())).bind fun y21 =>
           (slices_Clone_api_Span (s16.2.2.2.2.2.2.1.set s16.2.1.toNat (1, (s16.2.2.2.2.2.2.1.getD s16.2.1.toNat (0, 0, 0, ())).2), ())).bind fun y22 =>
           bif decide (0 ≤ s16.2.1) then
            bif decide (s16.2.1 < (y22.1.length : Int)) then
             some ((y21.1, y22.1.set s16.2.1.toNat (y20.1.1, y20.1.2.1, y20.1.2.2.1, ()), s16.2.2.2.2.1), s16.2.1, s16.2.2.1, true, ())
            else none
           else none
          else
          some ((s16.2.2.2.2.2.1, s16.2.2.2.2.2.2.1.set s16.2.1.toNat (1, (s16.2.2.2.2.2.2.1.getD s16.2.1.toNat (0, 0, 0, ())).2), s16.2.2.2.2.1), s16.2.1, s16.2.2.1, true, ())
         else
         some ((s16.2.2.2.2.2.1, s16.2.2.2.2.2.2.1.set s16.2.1.toNat (1, (s16.2.2.2.2.2.2.1.getD s16.2.1.toNat (0, 0, 0, ())).2), s16.2.2.2.2.1), s16.2.1, s16.2.2.1, true, ())
        else none
       else none
      else none
     else none
    | .ret s16 =>
     none
   else none
  else none
def sweep_One (x : Heap × (List (List Int)) × Unit) : Option (Heap × Int × Int × Bool × Unit) := sweep_One_r x.1 x.2.1
def sweep_One_sm : Sum := ⟨(.cons cHeap (.cons (.sl (.arr 4 cI)) .nil)), (.cons (.d cHeap) (.cons (.d cI) (.cons (.d cI) (.cons (.d .bool) .nil)))), sweep_One⟩
def sweep_One_L0 : LoopSum := { hc := ⟨[], [0, 1, 7, 8], [], [], [0, 16], [], 208⟩, h := ⟨[(0, (.d (.sl cSpan))), (1, (.fn 161 .nil .nil)), (7, (.d cI)), (8, (.d cI))], [(0, (.d cHeap)), (16, (.cons .nilsl (.cons .nilsl (.d (.cons .bool .nil)))))], [], 208⟩, xid := 0, oc := ⟨[], [], [], [], [0, 16], [], 208⟩, o := ⟨[], [(0, (.d cHeap)), (16, (.cons .nilsl (.cons .nilsl (.d (.cons .bool .nil)))))], [], 208⟩, rc := ⟨[], [4], [], [], [0, 16], [], 208⟩, r := ⟨[(4, (.d cI))], [(0, (.d cHeap)), (16, (.cons .nilsl (.cons .nilsl (.d (.cons .bool .nil)))))], [], 208⟩, F := sweep_One_l0 }
def sweep_One_L1 : LoopSum := { hc := ⟨[], [1, 4, 8, 9, 10, 11, 37, 38], [(.key 384 [.fld 0], (.int .u64)), (.key 384 [.fld 1], cSpan)], [], [16, 384], [], 560⟩, h := ⟨[(1, (.d (.sl (.arr 4 cI)))), (4, (.pvar 16 [])), (8, (.d cI)), (9, (.d cI)), (10, (.pvar 384 [])), (11, (.d cI)), (37, (.d cI)), (38, (.d cI))], [(16, (.cons .nilsl (.cons .nilsl (.d (.cons .bool .nil))))), (384, (.cons (.row 560) (.cons (.row 561) (.d (.cons .bool .nil)))))], [(560, (.int .u64), true), (561, cSpan, true)], 562⟩, xid := 0, oc := ⟨[], [1, 4, 8, 10, 11], [(.ptr 10 [.fld 0], (.int .u64)), (.ptr 10 [.fld 1], cSpan)], [], [16, 384], [], 560⟩, o := ⟨[(1, (.d (.sl (.arr 4 cI)))), (4, (.pvar 16 [])), (8, (.d cI)), (10, (.pvar 384 [])), (11, (.d cI))], [(16, (.cons .nilsl (.cons .nilsl (.d (.cons .bool .nil))))), (384, (.cons (.row 560) (.cons (.row 561) (.d (.cons .bool .nil)))))], [(560, (.int .u64), true), (561, cSpan, true)], 562⟩, rc := ⟨[], [], [], [], [560], [], 560⟩, r := ⟨[], [], [], 560⟩, F := sweep_One_l1 }
def sweep_One_c : Ctx := ⟨[(130, object_Get_sm), (136, object_Black_sm), (153, class_Words_sm), (161, sweep_dirty_sm), (162, sweep_Begin_sm), (163, slices_Clone_api_Span_sm), (164, class_Blocks_sm), (166, span_Empty_sm), (167, take_Kept_sm), (201, heap_Find_sm), (228, slices_Clone_uint64_sm), (231, span_Give_sm), (235, heap_Close_1_sm), (264, heap_page_sm)], [(160, Tryz.f160), (165, Tryz.f165), (168, Tryz.f168), (229, Tryz.f229), (230, Tryz.f230)], [⟨7, 160, 144, 0, sweep_One_L0⟩, ⟨8, 92, 0, 0, sweep_One_L1⟩]⟩
theorem sweep_One_sem : SemOf Tryz.prog 92 sweep_One_sm := semC (c := sweep_One_c) Tryz.func92 (sc object_Get_sem (sc object_Black_sem (sc class_Words_sem (sc sweep_dirty_sem (sc sweep_Begin_sem (sc slices_Clone_api_Span_sem (sc class_Blocks_sem (sc span_Empty_sem (sc take_Kept_sem (sc heap_Find_sem (sc slices_Clone_uint64_sem (sc span_Give_sem (sc heap_Close_1_sem (sc heap_page_sem an)))))))))))))) (fc (flC Tryz.func160) (fc (flC Tryz.func165) (fc (flC Tryz.func168) (fc (flC Tryz.func229) (fc (flC Tryz.func230) an))))) (ec (aeC [true, false, true, false, false] sweep_One_s0 Tryz.func160) (ec (aeC [true, false, true, true, true, true, true, true, true, false, true, false, false] sweep_One_s1 Tryz.func92) an)) 8
end
end Go.Proofs.YtkjpakaidjpjgaaGreatDoor.Dfn
