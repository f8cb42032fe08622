/- What functions come to. Printed by a program of this session. -/
import Derived.Test.YtkjpakaidjpjgaaGreatDoorDfnF1
namespace Go.Proofs.YtkjpakaidjpjgaaGreatDoor.Dfn
open Go
set_option maxRecDepth 100000
set_option linter.unusedVariables false
noncomputable section
def span_New_r (a0 : Int) : Option (Span × Bool × Unit) :=
 (class_Blocks (a0, ())).bind fun y1 =>
 bif y1.1 == 0 then
  some ((0, 0, 0, ()), false, ())
 else
 (span_whole (a0, ())).bind fun y2 =>
 some ((1, a0, y2.1, ()), true, ())
def span_New (x : Int × Unit) : Option (Span × Bool × Unit) := span_New_r x.1
def span_New_sm : Sum := ⟨(.cons cI .nil), (.cons (.cons (.d cI) (.cons (.d cI) (.cons (.d (.int .u32)) .nil))) (.cons (.d .bool) .nil)), span_New⟩
def span_New_c : Ctx := ⟨[(164, class_Blocks_sm), (232, span_whole_sm)], [], []⟩
theorem span_New_sem : SemOf Tryz.prog 245 span_New_sm := semC (c := span_New_c) Tryz.func245 (sc class_Blocks_sem (sc span_whole_sem an)) an an 8
def heap_Open_r (a0 : Heap) (a1 : Int) (a2 : Int) : Option (Heap × Bool × Unit) :=
 (heap_page (a0, a1, ())).bind fun y1 =>
 bif !y1.2.1 then
  some (a0, false, ())
 else
 (span_New (a2, ())).bind fun y2 =>
 bif y2.2.1 then
  bif !(y1.1.1 == 0) then
   some (a0, false, ())
  else
  (slices_Clone_uint64 (a0.1, ())).bind fun y3 =>
  (slices_Clone_api_Span (a0.2.1, ())).bind fun y4 =>
  bif decide (0 ≤ a1) then
   bif decide (a1 < (y4.1.length : Int)) then
    some ((y3.1, y4.1.set a1.toNat (y2.1.1, y2.1.2.1, y2.1.2.2.1, ()), a0.2.2), true, ())
   else none
  else none
 else
 some (a0, false, ())
def heap_Open (x : Heap × Val) : Option (Heap × Bool × Unit) := heap_Open_r x.1 x.2.1 x.2.2.1
def heap_Open_sm : Sum := ⟨(.cons cHeap cVal), (.cons (.d cHeap) (.cons (.d .bool) .nil)), heap_Open⟩
def heap_Open_c : Ctx := ⟨[(163, slices_Clone_api_Span_sm), (228, slices_Clone_uint64_sm), (245, span_New_sm), (264, heap_page_sm)], [(229, Tryz.f229), (244, Tryz.f244)], []⟩
theorem heap_Open_sem : SemOf Tryz.prog 180 heap_Open_sm := semC (c := heap_Open_c) Tryz.func180 (sc slices_Clone_api_Span_sem (sc slices_Clone_uint64_sem (sc span_New_sem (sc heap_page_sem an)))) (fc (flC Tryz.func229) (fc (flC Tryz.func244) an)) an 8
def math_bits_TrailingZeros32_rc (c : Int) (a0 : Int) : Option (Int × Unit) :=
 bif a0 == 0 then
  some (32, ())
 else
 bif decide (0 ≤ (shiftI false .u32 (wu32 ((bitsI .and .u32 a0 (wu32 (0 - a0))) * c)) 27)) then
  bif decide ((shiftI false .u32 (wu32 ((bitsI .and .u32 a0 (wu32 (0 - a0))) * c)) 27) < 32) then
   some (wi64 (([0, 1, 28, 2, 29, 14, 24, 3, 30, 22, 20, 15, 25, 17, 4, 8, 31, 27, 13, 23, 21, 19, 16, 7, 26, 12, 18, 6, 11, 5, 10, 9] : List Int).getD (shiftI false .u32 (wu32 ((bitsI .and .u32 a0 (wu32 (0 - a0))) * c)) 27).toNat 0), ())
  else none
 else none
def math_bits_TrailingZeros32_r (a0 : Int) : Option (Int × Unit) := math_bits_TrailingZeros32_rc 125613361 a0
def math_bits_TrailingZeros32 (x : Int × Unit) : Option (Int × Unit) := math_bits_TrailingZeros32_r x.1
def math_bits_TrailingZeros32_sm : Sum := ⟨(.cons (.int .u32) .nil), (.cons (.d cI) .nil), math_bits_TrailingZeros32⟩
def math_bits_TrailingZeros32_c : Ctx := ⟨[], [], []⟩
theorem math_bits_TrailingZeros32_denc (c : Int) : (fun x => denFun TEv (look1 math_bits_TrailingZeros32_c.S) (look1 math_bits_TrailingZeros32_c.fl) (annOf math_bits_TrailingZeros32_c.es) 8 337 (putF 125613361 c Tryz.f337) math_bits_TrailingZeros32_sm.a math_bits_TrailingZeros32_sm.r x) = fun x => math_bits_TrailingZeros32_rc c x.1 := by kernel_rfl
theorem math_bits_TrailingZeros32_put : putF 125613361 125613361 Tryz.f337 = Tryz.f337 := by kernel_rfl
theorem math_bits_TrailingZeros32_den : denC math_bits_TrailingZeros32_c 8 337 Tryz.f337 math_bits_TrailingZeros32_sm = math_bits_TrailingZeros32_sm.F := by
 have h := math_bits_TrailingZeros32_denc 125613361
 rw [math_bits_TrailingZeros32_put] at h
 exact h
theorem math_bits_TrailingZeros32_sem : SemOf Tryz.prog 337 math_bits_TrailingZeros32_sm := semC (c := math_bits_TrailingZeros32_c) Tryz.func337 an an an 8 (h := math_bits_TrailingZeros32_den)
def bits_Least_r (a0 : Int) : Option (Int × Bool × Unit) :=
 bif a0 == 0 then
  some (0, false, ())
 else
 (math_bits_TrailingZeros32 (a0, ())).bind fun y1 =>
 some (y1.1, true, ())
def bits_Least (x : Int × Unit) : Option (Int × Bool × Unit) := bits_Least_r x.1
def bits_Least_sm : Sum := ⟨(.cons (.int .u32) .nil), (.cons (.d cI) (.cons (.d .bool) .nil)), bits_Least⟩
def bits_Least_c : Ctx := ⟨[(337, math_bits_TrailingZeros32_sm)], [], []⟩
theorem bits_Least_sem : SemOf Tryz.prog 298 bits_Least_sm := semC (c := bits_Least_c) Tryz.func298 (sc math_bits_TrailingZeros32_sem an) an an 8
def bits_Without_r (a0 : Int) (a1 : Int) : Option (Int × Unit) :=
 (bits_one (a1, ())).bind fun y1 =>
 some (bitsI .andNot .u32 a0 y1.1, ())
def bits_Without (x : Int × Int × Unit) : Option (Int × Unit) := bits_Without_r x.1 x.2.1
def bits_Without_sm : Sum := ⟨(.cons (.int .u32) (.cons cI .nil)), (.cons (.d (.int .u32)) .nil), bits_Without⟩
def bits_Without_c : Ctx := ⟨[(332, bits_one_sm)], [], []⟩
theorem bits_Without_sem : SemOf Tryz.prog 299 bits_Without_sm := semC (c := bits_Without_c) Tryz.func299 (sc bits_one_sem an) an an 8
def span_Take_r (a0 : Span) : Option (Span × Int × Bool × Unit) :=
 (bits_Least (a0.2.2.1, ())).bind fun y1 =>
 bif !y1.2.1 then
  some (a0, 0, false, ())
 else
 bif a0.1 != 1 then
  some (a0, 0, false, ())
 else
 (bits_Without (a0.2.2.1, y1.1, ())).bind fun y2 =>
 some ((a0.1, a0.2.1, y2.1, a0.2.2.2), y1.1, true, ())
def span_Take (x : Span × Unit) : Option (Span × Int × Bool × Unit) := span_Take_r x.1
def span_Take_sm : Sum := ⟨(.cons cSpan .nil), (.cons (.d cSpan) (.cons (.d cI) (.cons (.d .bool) .nil))), span_Take⟩
def span_Take_c : Ctx := ⟨[(298, bits_Least_sm), (299, bits_Without_sm)], [], []⟩
theorem span_Take_sem : SemOf Tryz.prog 247 span_Take_sm := semC (c := span_Take_c) Tryz.func247 (sc bits_Least_sem (sc bits_Without_sem an)) an an 8
def class_Fields_r (a0 : Int) : Option (Int × Unit) :=
 (class_is (a0, ())).bind fun y1 =>
 bif !y1.1 then
  some (0, ())
 else
 bif decide (0 ≤ a0) then
  bif decide (a0 < 4) then
   some (wi64 ((([2, 4, 8, 16] : List Int).getD a0.toNat 0) - 1), ())
  else none
 else none
def class_Fields (x : Int × Unit) : Option (Int × Unit) := class_Fields_r x.1
def class_Fields_sm : Sum := ⟨(.cons cI .nil), (.cons (.d cI) .nil), class_Fields⟩
def class_Fields_c : Ctx := ⟨[(222, class_is_sm)], [], []⟩
theorem class_Fields_sem : SemOf Tryz.prog 248 class_Fields_sm := semC (c := class_Fields_c) Tryz.func248 (sc class_is_sem an) an an 8
def arena_Address_r (a0 : Int) (a1 : Int) (a2 : Int) : Option (Int × Bool × Unit) :=
 bif decide (a0 < 0) then
  some (0, false, ())
 else
 bif decide (a0 ≥ 16) then
  some (0, false, ())
 else
 bif decide (a2 < 0) then
  some (0, false, ())
 else
 (class_Blocks (a1, ())).bind fun y1 =>
 bif decide (a2 ≥ y1.1) then
  some (0, false, ())
 else
 (class_Words (a1, ())).bind fun y2 =>
 some (wi64 ((wi64 (a0 * 32)) + (wi64 (a2 * y2.1))), true, ())
def arena_Address (x : Int × Val) : Option (Int × Bool × Unit) := arena_Address_r x.1 x.2.1 x.2.2.1
def arena_Address_sm : Sum := ⟨(.cons cI cVal), (.cons (.d cI) (.cons (.d .bool) .nil)), arena_Address⟩
def arena_Address_c : Ctx := ⟨[(153, class_Words_sm), (164, class_Blocks_sm)], [], []⟩
theorem arena_Address_sem : SemOf Tryz.prog 249 arena_Address_sm := semC (c := arena_Address_c) Tryz.func249 (sc class_Words_sem (sc class_Blocks_sem an)) an an 8
def heap_Lay_r (a0 : Heap) (a1 : Int) (a2 : Int) : Option (Heap × Int × Bool × Unit) :=
 (heap_page (a0, a1, ())).bind fun y1 =>
 bif !y1.2.1 then
  some (a0, 0, false, ())
 else
 (span_Take (y1.1, ())).bind fun y2 =>
 bif y2.2.2.1 then
  bif decide (a2 ≥ 0) then
   (class_Fields (y1.1.2.1, ())).bind fun y3 =>
   bif !(decide (a2 ≤ y3.1)) then
    some (a0, 0, false, ())
   else
   (slices_Clone_uint64 (a0.1, ())).bind fun y4 =>
   (slices_Clone_api_Span (a0.2.1, ())).bind fun y5 =>
   bif decide (0 ≤ a1) then
    bif decide (a1 < (y5.1.length : Int)) then
     bif decide (0 ≤ a1) then
      bif decide (a1 < ((y5.1.set a1.toNat y2.1).length : Int)) then
       (arena_Address (a1, ((y5.1.set a1.toNat y2.1).getD a1.toNat (0, 0, 0, ())).2.1, y2.2.1, ())).bind fun y6 =>
       (header_Put ((true, a0.2.2.1, ((y5.1.set a1.toNat y2.1).getD a1.toNat (0, 0, 0, ())).2.1, a2, ()), ())).bind fun y7 =>
       (class_Words (((y5.1.set a1.toNat y2.1).getD a1.toNat (0, 0, 0, ())).2.1, ())).bind fun y8 =>
       bif decide (0 ≤ y6.1) then
        bif decide (y6.1 ≤ (wi64 (y6.1 + y8.1))) then
         bif decide ((wi64 (y6.1 + y8.1)) ≤ (y4.1.length : Int)) then
          bif decide (0 ≤ y6.1) then
           bif decide (y6.1 < ((segSet y4.1 y6.1.toNat (List.replicate ((wi64 (y6.1 + y8.1)).toNat - y6.1.toNat) 0)).length : Int)) then
            some (((segSet y4.1 y6.1.toNat (List.replicate ((wi64 (y6.1 + y8.1)).toNat - y6.1.toNat) 0)).set y6.1.toNat y7.1, y5.1.set a1.toNat y2.1, a0.2.2), y6.1, true, ())
           else none
          else none
         else none
        else none
       else none
      else none
     else none
    else none
   else none
  else
  some (a0, 0, false, ())
 else
 some (a0, 0, false, ())
def heap_Lay (x : Heap × Val) : Option (Heap × Int × Bool × Unit) := heap_Lay_r x.1 x.2.1 x.2.2.1
def heap_Lay_sm : Sum := ⟨(.cons cHeap cVal), (.cons (.d cHeap) (.cons (.d cI) (.cons (.d .bool) .nil))), heap_Lay⟩
def heap_Lay_c : Ctx := ⟨[(153, class_Words_sm), (163, slices_Clone_api_Span_sm), (228, slices_Clone_uint64_sm), (247, span_Take_sm), (248, class_Fields_sm), (249, arena_Address_sm), (250, header_Put_sm), (264, heap_page_sm)], [(229, Tryz.f229), (246, Tryz.f246)], []⟩
theorem heap_Lay_sem : SemOf Tryz.prog 181 heap_Lay_sm := semC (c := heap_Lay_c) Tryz.func181 (sc class_Words_sem (sc slices_Clone_api_Span_sem (sc slices_Clone_uint64_sem (sc span_Take_sem (sc class_Fields_sem (sc arena_Address_sem (sc header_Put_sem (sc heap_page_sem an)))))))) (fc (flC Tryz.func229) (fc (flC Tryz.func246) an)) an 8
def take_Take_r (a0 : Heap) (a1 : List (List Int)) (a2 : Int) (a3 : Int) : Option (Heap × (List (List Int)) × Int × Bool × Unit) :=
 (class_Of (a3, ())).bind fun y1 =>
 bif !y1.2.1 then
  some (a0, a1, 0, false, ())
 else
 (take_Page (a0, a1, a2, y1.1, ())).bind fun y2 =>
 bif !y2.2.1 then
  some (a0, a1, 0, false, ())
 else
 bif decide (0 ≤ y2.1) then
  bif decide (y2.1 < (a0.2.1.length : Int)) then
   bif (a0.2.1.getD y2.1.toNat (0, 0, 0, ())).1 == 0 then
    (heap_Open (a0, y2.1, y1.1, ())).bind fun y3 =>
    (heap_Lay (y3.1, y2.1, a3, ())).bind fun y4 =>
    (slices_Clone_A4_int (a1, ())).bind fun y5 =>
    bif decide (0 ≤ a2) then
     bif decide (a2 < (y5.1.length : Int)) then
      bif decide (0 ≤ y1.1) then
       bif decide (y1.1 < 4) then
        some (y4.1, y5.1.set a2.toNat ((y5.1.getD a2.toNat (List.replicate 4 0)).set y1.1.toNat y2.1), y4.2.1, true, ())
       else none
      else none
     else none
    else none
   else
   (heap_Lay (a0, y2.1, a3, ())).bind fun y6 =>
   (slices_Clone_A4_int (a1, ())).bind fun y7 =>
   bif decide (0 ≤ a2) then
    bif decide (a2 < (y7.1.length : Int)) then
     bif decide (0 ≤ y1.1) then
      bif decide (y1.1 < 4) then
       some (y6.1, y7.1.set a2.toNat ((y7.1.getD a2.toNat (List.replicate 4 0)).set y1.1.toNat y2.1), y6.2.1, true, ())
      else none
     else none
    else none
   else none
  else none
 else none
def take_Take (x : Heap × (List (List Int)) × Val) : Option (Heap × (List (List Int)) × Int × Bool × Unit) := take_Take_r x.1 x.2.1 x.2.2.1 x.2.2.2.1
def take_Take_sm : Sum := ⟨(.cons cHeap (.cons (.sl (.arr 4 cI)) cVal)), (.cons (.d cHeap) (.cons (.d (.sl (.arr 4 cI))) (.cons (.d cI) (.cons (.d .bool) .nil)))), take_Take⟩
def take_Take_c : Ctx := ⟨[(178, class_Of_sm), (179, take_Page_sm), (180, heap_Open_sm), (181, heap_Lay_sm), (182, slices_Clone_A4_int_sm)], [], []⟩
theorem take_Take_sem : SemOf Tryz.prog 101 take_Take_sm := semC (c := take_Take_c) Tryz.func101 (sc class_Of_sem (sc take_Page_sem (sc heap_Open_sem (sc heap_Lay_sem (sc slices_Clone_A4_int_sem an))))) an an 8
def word_May_r (a0 : Val) : Option (Bool × Unit) :=
 bif a0.1 == 0 then
  some (a0.2.1 == 0, ())
 else
 bif a0.1 == 1 then
  some (decide (a0.2.1 ≥ 0), ())
 else
 bif a0.1 == 2 then
  bif decide (a0.2.1 ≥ 0) then
   some (decide (a0.2.1 < 9223372036854775807), ())
  else
  some (false, ())
 else
 some (false, ())
def word_May (x : Val × Unit) : Option (Bool × Unit) := word_May_r x.1
def word_May_sm : Sum := ⟨(.cons cVal .nil), (.cons (.d .bool) .nil), word_May⟩
def word_May_c : Ctx := ⟨[], [], []⟩
theorem word_May_sem : SemOf Tryz.prog 251 word_May_sm := semC (c := word_May_c) Tryz.func251 an an an 8
def word_Put_r (a0 : Val) : Option (Int × Bool × Unit) :=
 (word_May (a0, ())).bind fun y1 =>
 bif !y1.1 then
  some (0, false, ())
 else
 bif a0.1 == 1 then
  some (bitsI .or .u64 (shiftI true .u64 (wu64 a0.2.1) 1) 1, true, ())
 else
 bif a0.1 == 2 then
  some (shiftI true .u64 (wu64 (wi64 (a0.2.1 + 1))) 1, true, ())
 else
 some (0, true, ())
def word_Put (x : Val × Unit) : Option (Int × Bool × Unit) := word_Put_r x.1
def word_Put_sm : Sum := ⟨(.cons cVal .nil), (.cons (.d (.int .u64)) (.cons (.d .bool) .nil)), word_Put⟩
def word_Put_c : Ctx := ⟨[(251, word_May_sm)], [], []⟩
theorem word_Put_sem : SemOf Tryz.prog 184 word_Put_sm := semC (c := word_Put_c) Tryz.func184 (sc word_May_sem an) an an 8
def object_Set_r (a0 : Heap) (a1 : Int) (a2 : Int) (a3 : Val) : Option (Heap × Int × Unit) :=
 (object_place (a0, a1, a2, ())).bind fun y1 =>
 bif y1.2.1 != 0 then
  some (a0, y1.2.1, ())
 else
 (word_Put (a3, ())).bind fun y2 =>
 bif !y2.2.1 then
  some (a0, 1, ())
 else
 (object_with (a0, y1.1, y2.1, ())).bind fun y3 =>
 some ((y3.1.1, y3.1.2.1, y3.1.2.2), 0, ())
def object_Set (x : Heap × Int × Int × Val × Unit) : Option (Heap × Int × Unit) := object_Set_r x.1 x.2.1 x.2.2.1 x.2.2.2.1
def object_Set_sm : Sum := ⟨(.cons cHeap (.cons cI (.cons cI (.cons cVal .nil)))), (.cons (.d cHeap) (.cons (.d cI) .nil)), object_Set⟩
def object_Set_c : Ctx := ⟨[(183, object_place_sm), (184, word_Put_sm), (185, object_with_sm)], [], []⟩
theorem object_Set_sem : SemOf Tryz.prog 104 object_Set_sm := semC (c := object_Set_c) Tryz.func104 (sc object_place_sem (sc word_Put_sem (sc object_with_sem an))) an an 8
def mut_Turn_r (a0 : Wrld) (a1 : Int) (a2 : Int × Int × Val) : Option (Wrld × (Int × Int × Int × Val × Unit) × Unit) :=
 bif decide (0 ≤ a1) then
  bif decide (a1 < (a0.2.2.1.length : Int)) then
   bif (a0.2.2.1.getD a1.toNat ([], 0, (0, 0, 0, 0, ()), 0, (0, 0, ()), List.replicate 4 0, ())).2.1 == 0 then
    (op_Check (a0.2.1, (a0.2.2.1.getD a1.toNat ([], 0, (0, 0, 0, 0, ()), 0, (0, 0, ()), List.replicate 4 0, ())).1, a0.1.2.2.1, a2, ())).bind fun y1 =>
    bif y1.1 != 0 then
     (slices_Clone_api_Mutator (a0.2.2.1, ())).bind fun y2 =>
     bif decide (0 ≤ a1) then
      bif decide (a1 < (y2.1.length : Int)) then
       some ((a0.1, a0.2.1, y2.1.set a1.toNat ((a0.2.2.1.getD a1.toNat ([], 0, (0, 0, 0, 0, ()), 0, (0, 0, ()), List.replicate 4 0, ())).1, 0, (0, 0, 0, 0, ()), 0, (0, 0, ()), (a0.2.2.1.getD a1.toNat ([], 0, (0, 0, 0, 0, ()), 0, (0, 0, ()), List.replicate 4 0, ())).2.2.2.2.2.1, ()), a0.2.2.2), (a1, 2, y1.1, (0, 0, ()), ()), ())
      else none
     else none
    else
    bif a2.1 == 3 then
     (roots_Slot ((a0.2.2.1.getD a1.toNat ([], 0, (0, 0, 0, 0, ()), 0, (0, 0, ()), List.replicate 4 0, ())).1, a2.2.1, ())).bind fun y3 =>
     (roots_Push ((a0.2.2.1.getD a1.toNat ([], 0, (0, 0, 0, 0, ()), 0, (0, 0, ()), List.replicate 4 0, ())).1, a0.1.2.2.1, y3.1, ())).bind fun y4 =>
     (slices_Clone_api_Mutator (a0.2.2.1, ())).bind fun y5 =>
     bif decide (0 ≤ a1) then
      bif decide (a1 < (y5.1.length : Int)) then
       some ((a0.1, a0.2.1, y5.1.set a1.toNat (y4.1, 0, (0, 0, 0, 0, ()), 0, (0, 0, ()), (a0.2.2.1.getD a1.toNat ([], 0, (0, 0, 0, 0, ()), 0, (0, 0, ()), List.replicate 4 0, ())).2.2.2.2.2.1, ()), a0.2.2.2), (a1, 2, 0, y3.1, ()), ())
      else none
     else none
    else
    bif a2.1 == 4 then
     (roots_Push ((a0.2.2.1.getD a1.toNat ([], 0, (0, 0, 0, 0, ()), 0, (0, 0, ()), List.replicate 4 0, ())).1, a0.1.2.2.1, (1, a2.2.1, ()), ())).bind fun y6 =>
     (slices_Clone_api_Mutator (a0.2.2.1, ())).bind fun y7 =>
     bif decide (0 ≤ a1) then
      bif decide (a1 < (y7.1.length : Int)) then
       some ((a0.1, a0.2.1, y7.1.set a1.toNat (y6.1, 0, (0, 0, 0, 0, ()), 0, (0, 0, ()), (a0.2.2.1.getD a1.toNat ([], 0, (0, 0, 0, 0, ()), 0, (0, 0, ()), List.replicate 4 0, ())).2.2.2.2.2.1, ()), a0.2.2.2), (a1, 2, 0, (1, a2.2.1, ()), ()), ())
      else none
     else none
    else
    bif a2.1 == 5 then
     (roots_Pop ((a0.2.2.1.getD a1.toNat ([], 0, (0, 0, 0, 0, ()), 0, (0, 0, ()), List.replicate 4 0, ())).1, ())).bind fun y8 =>
     (slices_Clone_api_Mutator (a0.2.2.1, ())).bind fun y9 =>
     bif decide (0 ≤ a1) then
      bif decide (a1 < (y9.1.length : Int)) then
       some ((a0.1, a0.2.1, y9.1.set a1.toNat (y8.1, 0, (0, 0, 0, 0, ()), 0, (0, 0, ()), (a0.2.2.1.getD a1.toNat ([], 0, (0, 0, 0, 0, ()), 0, (0, 0, ()), List.replicate 4 0, ())).2.2.2.2.2.1, ()), a0.2.2.2), (a1, 2, 0, (0, 0, ()), ()), ())
      else none
     else none
    else
    bif a2.1 == 6 then
     (slices_Clone_api_Mutator (a0.2.2.1, ())).bind fun y10 =>
     bif decide (0 ≤ a1) then
      bif decide (a1 < (y10.1.length : Int)) then
       some ((a0.1, a0.2.1, y10.1.set a1.toNat ((a0.2.2.1.getD a1.toNat ([], 0, (0, 0, 0, 0, ()), 0, (0, 0, ()), List.replicate 4 0, ())).1, 0, (0, 0, 0, 0, ()), 0, (0, 0, ()), (a0.2.2.1.getD a1.toNat ([], 0, (0, 0, 0, 0, ()), 0, (0, 0, ()), List.replicate 4 0, ())).2.2.2.2.2.1, ()), a0.2.2.2.1, a0.2.2.2.2.1, true, a0.2.2.2.2.2.2), (a1, 2, 0, (0, 0, ()), ()), ())
      else none
     else none
    else
    bif a2.1 == 0 then
     (cycle_Sweeper (a0, ())).bind fun y11 =>
     (slices_Clone_api_Mutator (y11.1.2.2.1, ())).bind fun y12 =>
     bif decide (0 ≤ a1) then
      bif decide (a1 < (y12.1.length : Int)) then
       some ((y11.1.1, y11.1.2.1, y12.1.set a1.toNat ((a0.2.2.1.getD a1.toNat ([], 0, (0, 0, 0, 0, ()), 0, (0, 0, ()), List.replicate 4 0, ())).1, 1, a2, (a0.2.2.1.getD a1.toNat ([], 0, (0, 0, 0, 0, ()), 0, (0, 0, ()), List.replicate 4 0, ())).2.2.2), y11.1.2.2.2), (a1, 1, 0, (0, 0, ()), ()), ())
      else none
     else none
    else
    (roots_Object ((a0.2.2.1.getD a1.toNat ([], 0, (0, 0, 0, 0, ()), 0, (0, 0, ()), List.replicate 4 0, ())).1, a2.2.1, ())).bind fun y13 =>
    (object_Field (a0.2.1, y13.1, a2.2.2.1, ())).bind fun y14 =>
    bif a2.1 == 1 then
     (slices_Clone_api_Mutator (a0.2.2.1, ())).bind fun y15 =>
     bif decide (0 ≤ a1) then
      bif decide (a1 < (y15.1.length : Int)) then
       some ((a0.1, a0.2.1, y15.1.set a1.toNat ((a0.2.2.1.getD a1.toNat ([], 0, (0, 0, 0, 0, ()), 0, (0, 0, ()), List.replicate 4 0, ())).1, 3, a2, (a0.2.2.1.getD a1.toNat ([], 0, (0, 0, 0, 0, ()), 0, (0, 0, ()), List.replicate 4 0, ())).2.2.2.1, (y14.1.1, y14.1.2.1, ()), (a0.2.2.1.getD a1.toNat ([], 0, (0, 0, 0, 0, ()), 0, (0, 0, ()), List.replicate 4 0, ())).2.2.2.2.2), a0.2.2.2), (a1, 1, 0, (0, 0, ()), ()), ())
      else none
     else none
    else
    (roots_Slot ((a0.2.2.1.getD a1.toNat ([], 0, (0, 0, 0, 0, ()), 0, (0, 0, ()), List.replicate 4 0, ())).1, a2.2.2.2.1, ())).bind fun y16 =>
    bif a0.2.2.2.2.1 == 1 then
     (mark_Note (a0.2.1, a0.2.2.2.1, a1, (y14.1.1, y14.1.2.1, ()), ())).bind fun y17 =>
     (slices_Clone_api_Mutator (a0.2.2.1, ())).bind fun y18 =>
     bif decide (0 ≤ a1) then
      bif decide (a1 < (y18.1.length : Int)) then
       some ((a0.1, y17.1, y18.1.set a1.toNat ((a0.2.2.1.getD a1.toNat ([], 0, (0, 0, 0, 0, ()), 0, (0, 0, ()), List.replicate 4 0, ())).1, 4, a2, y13.1, y16.1, (a0.2.2.1.getD a1.toNat ([], 0, (0, 0, 0, 0, ()), 0, (0, 0, ()), List.replicate 4 0, ())).2.2.2.2.2), (y17.2.1.1, y17.2.1.2.1, y17.2.1.2.2), a0.2.2.2.2), (a1, 1, 0, (0, 0, ()), ()), ())
      else none
     else none
    else
    (slices_Clone_api_Mutator (a0.2.2.1, ())).bind fun y19 =>
    bif decide (0 ≤ a1) then
     bif decide (a1 < (y19.1.length : Int)) then
      some ((a0.1, a0.2.1, y19.1.set a1.toNat ((a0.2.2.1.getD a1.toNat ([], 0, (0, 0, 0, 0, ()), 0, (0, 0, ()), List.replicate 4 0, ())).1, 4, a2, y13.1, y16.1, (a0.2.2.1.getD a1.toNat ([], 0, (0, 0, 0, 0, ()), 0, (0, 0, ()), List.replicate 4 0, ())).2.2.2.2.2), a0.2.2.2), (a1, 1, 0, (0, 0, ()), ()), ())
     else none
    else none
   else
   bif (a0.2.2.1.getD a1.toNat ([], 0, (0, 0, 0, 0, ()), 0, (0, 0, ()), List.replicate 4 0, ())).2.1 == 1 then
    (cycle_Caches (a0, ())).bind fun y20 =>
    (take_Take (a0.2.1, y20.1, a1, (a0.2.2.1.getD a1.toNat ([], 0, (0, 0, 0, 0, ()), 0, (0, 0, ()), List.replicate 4 0, ())).2.2.1.2.1, ())).bind fun y21 =>
    bif y21.2.2.2.1 then
     bif decide (0 ≤ a1) then
      bif decide (a1 < (y21.2.1.length : Int)) then
       (slices_Clone_api_Mutator (a0.2.2.1, ())).bind fun y22 =>
       bif decide (0 ≤ a1) then
        bif decide (a1 < (y22.1.length : Int)) then
         some ((a0.1, y21.1, y22.1.set a1.toNat ((a0.2.2.1.getD a1.toNat ([], 0, (0, 0, 0, 0, ()), 0, (0, 0, ()), List.replicate 4 0, ())).1, 2, (a0.2.2.1.getD a1.toNat ([], 0, (0, 0, 0, 0, ()), 0, (0, 0, ()), List.replicate 4 0, ())).2.2.1, y21.2.2.1, (a0.2.2.1.getD a1.toNat ([], 0, (0, 0, 0, 0, ()), 0, (0, 0, ()), List.replicate 4 0, ())).2.2.2.2.1, y21.2.1.getD a1.toNat (List.replicate 4 0), (a0.2.2.1.getD a1.toNat ([], 0, (0, 0, 0, 0, ()), 0, (0, 0, ()), List.replicate 4 0, ())).2.2.2.2.2.2), a0.2.2.2), (a1, 1, 0, (0, 0, ()), ()), ())
        else none
       else none
      else none
     else none
    else
    bif a0.2.2.2.2.1 == 2 then
     (cycle_Sweeper (a0, ())).bind fun y23 =>
     (slices_Clone_api_Mutator (y23.1.2.2.1, ())).bind fun y24 =>
     bif decide (0 ≤ a1) then
      bif decide (a1 < (y24.1.length : Int)) then
       some ((y23.1.1, y23.1.2.1, y24.1.set a1.toNat ((a0.2.2.1.getD a1.toNat ([], 0, (0, 0, 0, 0, ()), 0, (0, 0, ()), List.replicate 4 0, ())).1, 1, (a0.2.2.1.getD a1.toNat ([], 0, (0, 0, 0, 0, ()), 0, (0, 0, ()), List.replicate 4 0, ())).2.2), y23.1.2.2.2), (a1, 1, 0, (0, 0, ()), ()), ())
      else none
     else none
    else
    (slices_Clone_api_Mutator (a0.2.2.1, ())).bind fun y25 =>
    bif decide (0 ≤ a1) then
     bif decide (a1 < (y25.1.length : Int)) then
      some ((a0.1, a0.2.1, y25.1.set a1.toNat ((a0.2.2.1.getD a1.toNat ([], 0, (0, 0, 0, 0, ()), 0, (0, 0, ()), List.replicate 4 0, ())).1, 0, (0, 0, 0, 0, ()), 0, (0, 0, ()), (a0.2.2.1.getD a1.toNat ([], 0, (0, 0, 0, 0, ()), 0, (0, 0, ()), List.replicate 4 0, ())).2.2.2.2.2.1, ()), a0.2.2.2.1, a0.2.2.2.2.1, true, a0.2.2.2.2.2.2), (a1, 2, 6, (0, 0, ()), ()), ())
     else none
    else none
   else
   bif (a0.2.2.1.getD a1.toNat ([], 0, (0, 0, 0, 0, ()), 0, (0, 0, ()), List.replicate 4 0, ())).2.1 == 2 then
    (roots_Push ((a0.2.2.1.getD a1.toNat ([], 0, (0, 0, 0, 0, ()), 0, (0, 0, ()), List.replicate 4 0, ())).1, a0.1.2.2.1, (2, (a0.2.2.1.getD a1.toNat ([], 0, (0, 0, 0, 0, ()), 0, (0, 0, ()), List.replicate 4 0, ())).2.2.2.1, ()), ())).bind fun y26 =>
    (slices_Clone_api_Mutator (a0.2.2.1, ())).bind fun y27 =>
    bif decide (0 ≤ a1) then
     bif decide (a1 < (y27.1.length : Int)) then
      some ((a0.1, a0.2.1, y27.1.set a1.toNat (y26.1, 0, (0, 0, 0, 0, ()), 0, (0, 0, ()), (a0.2.2.1.getD a1.toNat ([], 0, (0, 0, 0, 0, ()), 0, (0, 0, ()), List.replicate 4 0, ())).2.2.2.2.2.1, ()), a0.2.2.2), (a1, 2, 0, (2, (a0.2.2.1.getD a1.toNat ([], 0, (0, 0, 0, 0, ()), 0, (0, 0, ()), List.replicate 4 0, ())).2.2.2.1, ()), ()), ())
     else none
    else none
   else
   bif (a0.2.2.1.getD a1.toNat ([], 0, (0, 0, 0, 0, ()), 0, (0, 0, ()), List.replicate 4 0, ())).2.1 == 3 then
    (roots_Push ((a0.2.2.1.getD a1.toNat ([], 0, (0, 0, 0, 0, ()), 0, (0, 0, ()), List.replicate 4 0, ())).1, a0.1.2.2.1, (a0.2.2.1.getD a1.toNat ([], 0, (0, 0, 0, 0, ()), 0, (0, 0, ()), List.replicate 4 0, ())).2.2.2.2.1, ())).bind fun y28 =>
    (slices_Clone_api_Mutator (a0.2.2.1, ())).bind fun y29 =>
    bif decide (0 ≤ a1) then
     bif decide (a1 < (y29.1.length : Int)) then
      some ((a0.1, a0.2.1, y29.1.set a1.toNat (y28.1, 0, (0, 0, 0, 0, ()), 0, (0, 0, ()), (a0.2.2.1.getD a1.toNat ([], 0, (0, 0, 0, 0, ()), 0, (0, 0, ()), List.replicate 4 0, ())).2.2.2.2.2.1, ()), a0.2.2.2), (a1, 2, 0, (a0.2.2.1.getD a1.toNat ([], 0, (0, 0, 0, 0, ()), 0, (0, 0, ()), List.replicate 4 0, ())).2.2.2.2.1, ()), ())
     else none
    else none
   else
   bif (a0.2.2.1.getD a1.toNat ([], 0, (0, 0, 0, 0, ()), 0, (0, 0, ()), List.replicate 4 0, ())).2.1 == 4 then
    (object_Set (a0.2.1, (a0.2.2.1.getD a1.toNat ([], 0, (0, 0, 0, 0, ()), 0, (0, 0, ()), List.replicate 4 0, ())).2.2.2.1, (a0.2.2.1.getD a1.toNat ([], 0, (0, 0, 0, 0, ()), 0, (0, 0, ()), List.replicate 4 0, ())).2.2.1.2.2.1, (a0.2.2.1.getD a1.toNat ([], 0, (0, 0, 0, 0, ()), 0, (0, 0, ()), List.replicate 4 0, ())).2.2.2.2.1, ())).bind fun y30 =>
    (slices_Clone_api_Mutator (a0.2.2.1, ())).bind fun y31 =>
    bif decide (0 ≤ a1) then
     bif decide (a1 < (y31.1.length : Int)) then
      some ((a0.1, y30.1, y31.1.set a1.toNat ((a0.2.2.1.getD a1.toNat ([], 0, (0, 0, 0, 0, ()), 0, (0, 0, ()), List.replicate 4 0, ())).1, 0, (0, 0, 0, 0, ()), 0, (0, 0, ()), (a0.2.2.1.getD a1.toNat ([], 0, (0, 0, 0, 0, ()), 0, (0, 0, ()), List.replicate 4 0, ())).2.2.2.2.2.1, ()), a0.2.2.2), (a1, 2, 0, (0, 0, ()), ()), ())
     else none
    else none
   else none
  else none
 else none
def mut_Turn (x : Wrld × Int × (Int × Int × Val) × Unit) : Option (Wrld × (Int × Int × Int × Val × Unit) × Unit) := mut_Turn_r x.1 x.2.1 x.2.2.1
def mut_Turn_sm : Sum := ⟨(.cons cWrld (.cons cI (.cons (.cons cI (.cons cI cVal)) .nil))), (.cons (.cons (.d cRep) (.cons (.d cHeap) (.cons (.own cMut) (.d (.cons cMarker (.cons cI (.cons .bool (.cons cI (.cons (.sl cRep) .nil))))))))) (.cons (.cons (.d cI) (.cons (.d cI) (.cons (.d cI) (.cons (.d cVal) .nil)))) .nil)), mut_Turn⟩
def mut_Turn_c : Ctx := ⟨[(31, cycle_Sweeper_sm), (41, slices_Clone_api_Mutator_sm), (75, cycle_Caches_sm), (95, op_Check_sm), (97, roots_Slot_sm), (99, roots_Pop_sm), (101, take_Take_sm), (104, object_Set_sm), (173, roots_Push_sm), (175, roots_Object_sm), (176, object_Field_sm), (177, mark_Note_sm)], [(36, Tryz.f36), (37, Tryz.f37), (38, Tryz.f38), (39, Tryz.f39), (40, Tryz.f40), (96, Tryz.f96), (98, Tryz.f98), (100, Tryz.f100), (102, Tryz.f102), (103, Tryz.f103)], []⟩
theorem mut_Turn_sem : SemOf Tryz.prog 13 mut_Turn_sm := semC (c := mut_Turn_c) Tryz.func13 (sc cycle_Sweeper_sem (sc slices_Clone_api_Mutator_sem (sc cycle_Caches_sem (sc op_Check_sem (sc roots_Slot_sem (sc roots_Pop_sem (sc take_Take_sem (sc object_Set_sem (sc roots_Push_sem (sc roots_Object_sem (sc object_Field_sem (sc mark_Note_sem an)))))))))))) (fc (flC Tryz.func36) (fc (flC Tryz.func37) (fc (flC Tryz.func38) (fc (flC Tryz.func39) (fc (flC Tryz.func40) (fc (flC Tryz.func96) (fc (flC Tryz.func98) (fc (flC Tryz.func100) (fc (flC Tryz.func102) (fc (flC Tryz.func103) an)))))))))) an 8
abbrev r04_Blocks_h0 : U := (.cons cI cVal)
abbrev r04_Blocks_o0 : U := (.cons cI .nil)
abbrev r04_Blocks_e0 : U := .nil
def r04_Blocks_s0r (v0 : Int) (v3 : Int) (v4 : Int) : Option (SRes r04_Blocks_h0 r04_Blocks_o0 r04_Blocks_e0) :=
 bif decide (v4 < v0) then
  some (.next (v0, wi64 (v3.tdiv 2), wi64 (v4 + 1), ()))
 else
 some (.fin (.out (v3, ())))
def r04_Blocks_s0 (x : r04_Blocks_h0.T) : Option (SRes r04_Blocks_h0 r04_Blocks_o0 r04_Blocks_e0) := r04_Blocks_s0r x.1 x.2.1 x.2.2.1
def r04_Blocks_l0 (x : r04_Blocks_h0.T) : Option (LRes r04_Blocks_o0 r04_Blocks_e0) := iterL r04_Blocks_s0 9223372036854775808 x
def r04_Blocks_r (a0 : Int) : Option (Int × Unit) :=
 bif decide (a0 < 0) then
  some (0, ())
 else
 bif decide (a0 > 3) then
  some (0, ())
 else
 (r04_Blocks_l0 (a0, 16, 0, ())).bind fun s1 => match s1 with
 | .out s1 =>
  some (s1.1, ())
 | .ret s1 =>
  none
def r04_Blocks (x : Int × Unit) : Option (Int × Unit) := r04_Blocks_r x.1
def r04_Blocks_sm : Sum := ⟨(.cons cI .nil), (.cons (.d cI) .nil), r04_Blocks⟩
def r04_Blocks_L0 : LoopSum := { hc := ⟨[], [0, 3, 4], [], [], [], [], 144⟩, h := ⟨[(0, (.d cI)), (3, (.d cI)), (4, (.d cI))], [], [], 144⟩, xid := 0, oc := ⟨[], [3], [], [], [], [], 144⟩, o := ⟨[(3, (.d cI))], [], [], 144⟩, rc := ⟨[], [], [], [], [144], [], 144⟩, r := ⟨[], [], [], 144⟩, F := r04_Blocks_l0 }
def r04_Blocks_c : Ctx := ⟨[], [], [⟨8, 83, 0, 0, r04_Blocks_L0⟩]⟩
theorem r04_Blocks_sem : SemOf Tryz.prog 83 r04_Blocks_sm := semC (c := r04_Blocks_c) Tryz.func83 an an (ec (aeC [true, true, true, false, true, false, false] r04_Blocks_s0 Tryz.func83) an) 8
abbrev r07_with_h0 : U := (.cons cI (.cons cI (.cons cHeap (.cons cSpan (.cons (.cons .bool .nil) (.cons (.cons .bool .nil) (.cons (.sl (.int .u64)) (.cons (.sl cSpan) .nil))))))))
abbrev r07_with_o0 : U := (.cons (.cons .bool .nil) (.cons (.cons .bool .nil) (.cons (.sl (.int .u64)) (.cons (.sl cSpan) .nil))))
abbrev r07_with_e0 : U := .nil
def r07_with_s0r (v1 : Int) (v8 : Int) (c0 : Heap) (c16 : Span) (c32 : Bool × Unit) (c96 : Bool × Unit) (r192 : List Int) (r256 : List Span) : Option (SRes r07_with_h0 r07_with_o0 r07_with_e0) :=
 bif decide (v8 < (c0.2.1.length : Int)) then
  bif decide (0 ≤ v8) then
   bif decide (v8 < (c0.2.1.length : Int)) then
    bif v8 == v1 then
     bif decide ((r256.length + 1) * 24 ≤ 140737488355328) then
      some (.next (v1, wi64 (v8 + 1), c0, c16, c32, c96, r192, r256 ++ [c16], ()))
     else none
    else
    bif decide ((r256.length + 1) * 24 ≤ 140737488355328) then
     some (.next (v1, wi64 (v8 + 1), c0, c16, c32, c96, r192, r256 ++ [c0.2.1.getD v8.toNat (0, 0, 0, ())], ()))
    else none
   else none
  else none
 else
 some (.fin (.out (c32, c96, r192, r256, ())))
def r07_with_s0 (x : r07_with_h0.T) : Option (SRes r07_with_h0 r07_with_o0 r07_with_e0) := r07_with_s0r x.1 x.2.1 x.2.2.1 x.2.2.2.1 x.2.2.2.2.1 x.2.2.2.2.2.1 x.2.2.2.2.2.2.1 x.2.2.2.2.2.2.2.1
def r07_with_l0 (x : r07_with_h0.T) : Option (LRes r07_with_o0 r07_with_e0) := iterL r07_with_s0 9223372036854775808 x
def r07_with_r (a0 : Heap) (a1 : Int) (a2 : Span) : Option (Heap × Unit) :=
 bif decide (a0.1.length * 8 ≤ 140737488355328) then
  (r07_with_l0 (a1, 0, a0, a2, (false, ()), (a0.2.2.1, ()), a0.1, [], ())).bind fun s1 => match s1 with
  | .out s1 =>
   some ((s1.2.2.1, s1.2.2.2.1, s1.2.1), ())
  | .ret s1 =>
   none
 else none
def r07_with (x : Heap × Int × Span × Unit) : Option (Heap × Unit) := r07_with_r x.1 x.2.1 x.2.2.1
def r07_with_sm : Sum := ⟨(.cons cHeap (.cons cI (.cons cSpan .nil))), (.cons (.cons (.own (.int .u64)) (.cons (.own cSpan) (.d (.cons .bool .nil)))) .nil), r07_with⟩
def r07_with_L0 : LoopSum := { hc := ⟨[], [1, 3, 5, 6, 7, 8], [(.key 96 [.fld 1], cSpan)], [], [0, 16, 32, 96], [192], 256⟩, h := ⟨[(1, (.d cI)), (3, (.pvar 0 [])), (5, (.pvar 16 [])), (6, (.pvar 32 [])), (7, (.pvar 96 [])), (8, (.d cI))], [(0, (.d cHeap)), (16, (.d cSpan)), (32, (.cons .nilsl (.cons .nilsl (.d (.cons .bool .nil))))), (96, (.cons (.row 192) (.cons (.row 256) (.d (.cons .bool .nil)))))], [(192, (.int .u64), true), (256, cSpan, true)], 257⟩, xid := 0, oc := ⟨[], [6, 7], [(.ptr 7 [.fld 1], cSpan)], [], [32, 96], [192], 256⟩, o := ⟨[(6, (.pvar 32 [])), (7, (.pvar 96 []))], [(32, (.cons .nilsl (.cons .nilsl (.d (.cons .bool .nil))))), (96, (.cons (.row 192) (.cons (.row 256) (.d (.cons .bool .nil)))))], [(192, (.int .u64), true), (256, cSpan, true)], 257⟩, rc := ⟨[], [], [], [], [256], [], 256⟩, r := ⟨[], [], [], 256⟩, F := r07_with_l0 }
def r07_with_c : Ctx := ⟨[], [], [⟨8, 191, 0, 0, r07_with_L0⟩]⟩
theorem r07_with_sem : SemOf Tryz.prog 191 r07_with_sm := semC (c := r07_with_c) Tryz.func191 an an (ec (aeC [true, true, true, false, true, false, false] r07_with_s0 Tryz.func191) an) 8
abbrev r03_Of_h0 : U := (.cons (.int .u32) (.cons cI (.cons (.arr 32 .bool) .nil)))
abbrev r03_Of_o0 : U := (.cons (.int .u32) .nil)
abbrev r03_Of_e0 : U := .nil
def r03_Of_s0r (v3 : Int) (v4 : Int) (c0 : List Bool) : Option (SRes r03_Of_h0 r03_Of_o0 r03_Of_e0) :=
 bif decide (v4 ≥ 0) then
  bif decide (0 ≤ v4) then
   bif decide (v4 < 32) then
    bif c0.getD v4.toNat false then
     some (.next (wu32 ((wu32 (2 * v3)) + 1), wi64 (v4 - 1), c0, ()))
    else
    some (.next (wu32 (2 * v3), wi64 (v4 - 1), c0, ()))
   else none
  else none
 else
 some (.fin (.out (v3, ())))
def r03_Of_s0 (x : r03_Of_h0.T) : Option (SRes r03_Of_h0 r03_Of_o0 r03_Of_e0) := r03_Of_s0r x.1 x.2.1 x.2.2.1
def r03_Of_l0 (x : r03_Of_h0.T) : Option (LRes r03_Of_o0 r03_Of_e0) := iterL r03_Of_s0 9223372036854775808 x
def r03_Of_r (a0 : List Bool) : Option (Int × Unit) :=
 (r03_Of_l0 (0, 31, a0, ())).bind fun s1 => match s1 with
 | .out s1 =>
  some (s1.1, ())
 | .ret s1 =>
  none
def r03_Of (x : (List Bool) × Unit) : Option (Int × Unit) := r03_Of_r x.1
def r03_Of_sm : Sum := ⟨(.cons (.arr 32 .bool) .nil), (.cons (.d (.int .u32)) .nil), r03_Of⟩
def r03_Of_L0 : LoopSum := { hc := ⟨[], [1, 3, 4], [], [], [0], [], 64⟩, h := ⟨[(1, (.pvar 0 [])), (3, (.d (.int .u32))), (4, (.d cI))], [(0, (.d (.arr 32 .bool)))], [], 64⟩, xid := 0, oc := ⟨[], [3], [], [], [], [], 64⟩, o := ⟨[(3, (.d (.int .u32)))], [], [], 64⟩, rc := ⟨[], [], [], [], [64], [], 64⟩, r := ⟨[], [], [], 64⟩, F := r03_Of_l0 }
def r03_Of_c : Ctx := ⟨[], [], [⟨8, 254, 0, 0, r03_Of_L0⟩]⟩
theorem r03_Of_sem : SemOf Tryz.prog 254 r03_Of_sm := semC (c := r03_Of_c) Tryz.func254 an an (ec (aeC [true, true, false, true, false, false] r03_Of_s0 Tryz.func254) an) 8
abbrev r03_Whole_h0 : U := (.cons cI (.cons cI (.cons (.arr 32 .bool) .nil)))
abbrev r03_Whole_o0 : U := (.cons (.arr 32 .bool) .nil)
abbrev r03_Whole_e0 : U := .nil
def r03_Whole_s0r (v0 : Int) (v4 : Int) (c16 : List Bool) : Option (SRes r03_Whole_h0 r03_Whole_o0 r03_Whole_e0) :=
 bif decide (v4 < 32) then
  bif decide (0 ≤ v4) then
   bif decide (v4 < 32) then
    some (.next (v0, wi64 (v4 + 1), c16.set v4.toNat (decide (v4 < v0)), ()))
   else none
  else none
 else
 some (.fin (.out (c16, ())))
def r03_Whole_s0 (x : r03_Whole_h0.T) : Option (SRes r03_Whole_h0 r03_Whole_o0 r03_Whole_e0) := r03_Whole_s0r x.1 x.2.1 x.2.2.1
def r03_Whole_l0 (x : r03_Whole_h0.T) : Option (LRes r03_Whole_o0 r03_Whole_e0) := iterL r03_Whole_s0 9223372036854775808 x
def r03_Whole_r (a0 : Int) : Option (Int × Unit) :=
 (r03_Whole_l0 (a0, 0, List.replicate 32 false, ())).bind fun s1 => match s1 with
 | .out s1 =>
  (r03_Of (s1.1, ())).bind fun y2 =>
  some (y2.1, ())
 | .ret s1 =>
  none
def r03_Whole (x : Int × Unit) : Option (Int × Unit) := r03_Whole_r x.1
def r03_Whole_sm : Sum := ⟨(.cons cI .nil), (.cons (.d (.int .u32)) .nil), r03_Whole⟩
def r03_Whole_L0 : LoopSum := { hc := ⟨[], [0, 3, 4], [], [], [16], [], 48⟩, h := ⟨[(0, (.d cI)), (3, (.pvar 16 [])), (4, (.d cI))], [(16, (.d (.arr 32 .bool)))], [], 48⟩, xid := 0, oc := ⟨[], [3], [], [], [16], [], 48⟩, o := ⟨[(3, (.pvar 16 []))], [(16, (.d (.arr 32 .bool)))], [], 48⟩, rc := ⟨[], [], [], [], [48], [], 48⟩, r := ⟨[], [], [], 48⟩, F := r03_Whole_l0 }
def r03_Whole_c : Ctx := ⟨[(254, r03_Of_sm)], [], [⟨8, 192, 0, 0, r03_Whole_L0⟩]⟩
theorem r03_Whole_sem : SemOf Tryz.prog 192 r03_Whole_sm := semC (c := r03_Whole_c) Tryz.func192 (sc r03_Of_sem an) an (ec (aeC [true, true, false, true, false, false] r03_Whole_s0 Tryz.func192) an) 8
def r07_Open_r (a0 : Heap) (a1 : Int) (a2 : Int) : Option (Heap × Bool × Unit) :=
 bif decide (a1 < 0) then
  some (a0, false, ())
 else
 bif decide (a1 ≥ (a0.2.1.length : Int)) then
  some (a0, false, ())
 else
 bif decide (a2 < 0) then
  some (a0, false, ())
 else
 bif decide (a2 > 3) then
  some (a0, false, ())
 else
 bif decide (0 ≤ a1) then
  bif decide (a1 < (a0.2.1.length : Int)) then
   bif (a0.2.1.getD a1.toNat (0, 0, 0, ())).1 != 0 then
    some (a0, false, ())
   else
   (r04_Blocks (a2, ())).bind fun y1 =>
   (r03_Whole (y1.1, ())).bind fun y2 =>
   (r07_with (a0, a1, (1, a2, y2.1, ()), ())).bind fun y3 =>
   some ((y3.1.1, y3.1.2.1, y3.1.2.2), true, ())
  else none
 else none
def r07_Open (x : Heap × Val) : Option (Heap × Bool × Unit) := r07_Open_r x.1 x.2.1 x.2.2.1
def r07_Open_sm : Sum := ⟨(.cons cHeap cVal), (.cons (.d cHeap) (.cons (.d .bool) .nil)), r07_Open⟩
def r07_Open_c : Ctx := ⟨[(83, r04_Blocks_sm), (191, r07_with_sm), (192, r03_Whole_sm)], [], []⟩
theorem r07_Open_sem : SemOf Tryz.prog 115 r07_Open_sm := semC (c := r07_Open_c) Tryz.func115 (sc r04_Blocks_sem (sc r07_with_sem (sc r03_Whole_sem an))) an an 8
abbrev r04_Words_h0 : U := (.cons cI cVal)
abbrev r04_Words_o0 : U := (.cons cI .nil)
abbrev r04_Words_e0 : U := .nil
def r04_Words_s0r (v0 : Int) (v3 : Int) (v4 : Int) : Option (SRes r04_Words_h0 r04_Words_o0 r04_Words_e0) :=
 bif decide (v4 < v0) then
  some (.next (v0, wi64 (2 * v3), wi64 (v4 + 1), ()))
 else
 some (.fin (.out (v3, ())))
def r04_Words_s0 (x : r04_Words_h0.T) : Option (SRes r04_Words_h0 r04_Words_o0 r04_Words_e0) := r04_Words_s0r x.1 x.2.1 x.2.2.1
def r04_Words_l0 (x : r04_Words_h0.T) : Option (LRes r04_Words_o0 r04_Words_e0) := iterL r04_Words_s0 9223372036854775808 x
def r04_Words_r (a0 : Int) : Option (Int × Unit) :=
 bif decide (a0 < 0) then
  some (0, ())
 else
 bif decide (a0 > 3) then
  some (0, ())
 else
 (r04_Words_l0 (a0, 2, 0, ())).bind fun s1 => match s1 with
 | .out s1 =>
  some (s1.1, ())
 | .ret s1 =>
  none
def r04_Words (x : Int × Unit) : Option (Int × Unit) := r04_Words_r x.1
def r04_Words_sm : Sum := ⟨(.cons cI .nil), (.cons (.d cI) .nil), r04_Words⟩
def r04_Words_L0 : LoopSum := { hc := ⟨[], [0, 3, 4], [], [], [], [], 144⟩, h := ⟨[(0, (.d cI)), (3, (.d cI)), (4, (.d cI))], [], [], 144⟩, xid := 0, oc := ⟨[], [3], [], [], [], [], 144⟩, o := ⟨[(3, (.d cI))], [], [], 144⟩, rc := ⟨[], [], [], [], [144], [], 144⟩, r := ⟨[], [], [], 144⟩, F := r04_Words_l0 }
def r04_Words_c : Ctx := ⟨[], [], [⟨8, 82, 0, 0, r04_Words_L0⟩]⟩
theorem r04_Words_sem : SemOf Tryz.prog 82 r04_Words_sm := semC (c := r04_Words_c) Tryz.func82 an an (ec (aeC [true, true, true, false, true, false, false] r04_Words_s0 Tryz.func82) an) 8
abbrev r03_Has_h0 : U := (.cons (.int .u32) cVal)
abbrev r03_Has_o0 : U := (.cons (.int .u32) .nil)
abbrev r03_Has_e0 : U := .nil
def r03_Has_s0r (v0 : Int) (v1 : Int) (v5 : Int) : Option (SRes r03_Has_h0 r03_Has_o0 r03_Has_e0) :=
 bif decide (v5 < v1) then
  some (.next (wu32 (v0.tdiv 2), v1, wi64 (v5 + 1), ()))
 else
 some (.fin (.out (v0, ())))
def r03_Has_s0 (x : r03_Has_h0.T) : Option (SRes r03_Has_h0 r03_Has_o0 r03_Has_e0) := r03_Has_s0r x.1 x.2.1 x.2.2.1
def r03_Has_l0 (x : r03_Has_h0.T) : Option (LRes r03_Has_o0 r03_Has_e0) := iterL r03_Has_s0 9223372036854775808 x
def r03_Has_r (a0 : Int) (a1 : Int) : Option (Bool × Unit) :=
 bif decide (a1 < 0) then
  some (false, ())
 else
 bif decide (a1 > 31) then
  some (false, ())
 else
 (r03_Has_l0 (a0, a1, 0, ())).bind fun s1 => match s1 with
 | .out s1 =>
  some ((s1.1.tmod 2) == 1, ())
 | .ret s1 =>
  none
def r03_Has (x : Int × Int × Unit) : Option (Bool × Unit) := r03_Has_r x.1 x.2.1
def r03_Has_sm : Sum := ⟨(.cons (.int .u32) (.cons cI .nil)), (.cons (.d .bool) .nil), r03_Has⟩
def r03_Has_L0 : LoopSum := { hc := ⟨[], [0, 1, 5], [], [], [], [], 128⟩, h := ⟨[(0, (.d (.int .u32))), (1, (.d cI)), (5, (.d cI))], [], [], 128⟩, xid := 0, oc := ⟨[], [0], [], [], [], [], 128⟩, o := ⟨[(0, (.d (.int .u32)))], [], [], 128⟩, rc := ⟨[], [], [], [], [128], [], 128⟩, r := ⟨[], [], [], 128⟩, F := r03_Has_l0 }
def r03_Has_c : Ctx := ⟨[], [], [⟨8, 84, 0, 0, r03_Has_L0⟩]⟩
theorem r03_Has_sem : SemOf Tryz.prog 84 r03_Has_sm := semC (c := r03_Has_c) Tryz.func84 an an (ec (aeC [true, true, false, true, false, false] r03_Has_s0 Tryz.func84) an) 8
end
end Go.Proofs.YtkjpakaidjpjgaaGreatDoor.Dfn
