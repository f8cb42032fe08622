/- What functions come to. Printed by a program of this session. -/
import Derived.Test.YtdfhopakojmjkaaDoorDenFw
namespace Go.Proofs.YtdfhopakojmjkaaDoor.Den
open Go
set_option maxRecDepth 100000
set_option linter.unusedVariables false
/-! ### flotsam/heap.page -/
def heap_page_r (a0 : Heap) (a1 : Int) : Option (Span × Bool × Unit) :=
  bif decide (a1 < 0) then
    some ((0, 0, 0, ()), false, ())
  else
  bif decide (a1 ≥ (a0.2.1.length : Int)) then
    some ((0, 0, 0, ()), false, ())
  else
  bif decide (0 ≤ a1) then
    bif decide (a1 < (a0.2.1.length : Int)) then
      some (a0.2.1.getD a1.toNat (0, 0, 0, ()), true, ())
    else none
  else none
def heap_page (x : Heap × Int × Unit) : Option (Span × Bool × Unit) := heap_page_r x.1 x.2.1
noncomputable def heap_page_sm : Sum := ⟨(.cons cHeap (.cons cI .nil)), (.cons (.d cSpan) (.cons (.d .bool) .nil)), heap_page⟩
noncomputable def heap_page_S : List (Nat × Sum) := []
noncomputable def heap_page_fl : List (Nat × Func) := []
noncomputable def heap_page_es : List AE := []
theorem heap_page_den : (fun x => denFun TEv (look1 heap_page_S) (look1 heap_page_fl) (annOf heap_page_es) 8 97 Go.Proofs.Tryd.f97 heap_page_sm.a heap_page_sm.r x) = heap_page_sm.F := by kernel_rfl
theorem heap_page_sem : SemOf Go.Proofs.Tryd.prog 97 heap_page_sm :=
  semMk teOk (sl := heap_page_S) (all_nil) (fl := heap_page_fl) (all_nil) (es := heap_page_es) Go.Proofs.Tryd.func97 (by kernel_rfl) rfl (rng_none (by kernel_rfl) (by kernel_rfl)) (all_nil) rfl heap_page_den

/-! ### flotsam/class.is -/
def class_is_r (a0 : Int) : Option (Bool × Unit) :=
  bif decide (a0 ≥ 0) then
    some (decide (a0 < 4), ())
  else
  some (false, ())
def class_is (x : Int × Unit) : Option (Bool × Unit) := class_is_r x.1
noncomputable def class_is_sm : Sum := ⟨(.cons cI .nil), (.cons (.d .bool) .nil), class_is⟩
noncomputable def class_is_S : List (Nat × Sum) := []
noncomputable def class_is_fl : List (Nat × Func) := []
noncomputable def class_is_es : List AE := []
theorem class_is_den : (fun x => denFun TEv (look1 class_is_S) (look1 class_is_fl) (annOf class_is_es) 8 152 Go.Proofs.Tryd.f152 class_is_sm.a class_is_sm.r x) = class_is_sm.F := by kernel_rfl
theorem class_is_sem : SemOf Go.Proofs.Tryd.prog 152 class_is_sm :=
  semMk teOk (sl := class_is_S) (all_nil) (fl := class_is_fl) (all_nil) (es := class_is_es) Go.Proofs.Tryd.func152 (by kernel_rfl) rfl (rng_none (by kernel_rfl) (by kernel_rfl)) (all_nil) rfl class_is_den

/-! ### flotsam/class.Words -/
def class_Words_r (a0 : Int) : Option (Int × Unit) :=
  (class_is (a0, ())).bind fun y1 =>
  bif !y1.1 then
    some (0, ())
  else
  bif decide (0 ≤ a0) then
    bif decide (a0 < 4) then
      some (([2, 4, 8, 16] : List Int).getD a0.toNat 0, ())
    else none
  else none
def class_Words (x : Int × Unit) : Option (Int × Unit) := class_Words_r x.1
noncomputable def class_Words_sm : Sum := ⟨(.cons cI .nil), (.cons (.d cI) .nil), class_Words⟩
noncomputable def class_Words_S : List (Nat × Sum) := [(152, class_is_sm)]
noncomputable def class_Words_fl : List (Nat × Func) := []
noncomputable def class_Words_es : List AE := []
theorem class_Words_den : (fun x => denFun TEv (look1 class_Words_S) (look1 class_Words_fl) (annOf class_Words_es) 8 102 Go.Proofs.Tryd.f102 class_Words_sm.a class_Words_sm.r x) = class_Words_sm.F := by kernel_rfl
theorem class_Words_sem : SemOf Go.Proofs.Tryd.prog 102 class_Words_sm :=
  semMk teOk (sl := class_Words_S) (all_cons class_is_sem all_nil) (fl := class_Words_fl) (all_nil) (es := class_Words_es) Go.Proofs.Tryd.func102 (by kernel_rfl) rfl (rng_none (by kernel_rfl) (by kernel_rfl)) (all_nil) rfl class_Words_den

/-! ### flotsam/arena.Place -/
def arena_Place_r (a0 : Int) (a1 : Int) : Option (Int × Int × Bool × Unit) :=
  (class_Words (a0, ())).bind fun y1 =>
  bif y1.1 == 0 then
    some (0, 0, false, ())
  else
  bif decide (a1 < 0) then
    some (0, 0, false, ())
  else
  bif decide (a1 ≥ 512) then
    some (0, 0, false, ())
  else
  bif y1.1 == 0 then none else
  bif (a1.tmod y1.1) != 0 then
    some (0, 0, false, ())
  else
  bif y1.1 == 0 then none else
  some (wi64 (a1.tdiv 32), wi64 ((a1.tmod 32).tdiv y1.1), true, ())
def arena_Place (x : Val) : Option (Int × Int × Bool × Unit) := arena_Place_r x.1 x.2.1
noncomputable def arena_Place_sm : Sum := ⟨cVal, (.cons (.d cI) (.cons (.d cI) (.cons (.d .bool) .nil))), arena_Place⟩
noncomputable def arena_Place_S : List (Nat × Sum) := [(102, class_Words_sm)]
noncomputable def arena_Place_fl : List (Nat × Func) := []
noncomputable def arena_Place_es : List AE := []
theorem arena_Place_den : (fun x => denFun TEv (look1 arena_Place_S) (look1 arena_Place_fl) (annOf arena_Place_es) 8 98 Go.Proofs.Tryd.f98 arena_Place_sm.a arena_Place_sm.r x) = arena_Place_sm.F := by kernel_rfl
theorem arena_Place_sem : SemOf Go.Proofs.Tryd.prog 98 arena_Place_sm :=
  semMk teOk (sl := arena_Place_S) (all_cons class_Words_sem all_nil) (fl := arena_Place_fl) (all_nil) (es := arena_Place_es) Go.Proofs.Tryd.func98 (by kernel_rfl) rfl (rng_none (by kernel_rfl) (by kernel_rfl)) (all_nil) rfl arena_Place_den

/-! ### flotsam/heap.Find -/
def heap_Find_r (a0 : Heap) (a1 : Int) : Option (Int × Int × Bool × Unit) :=
  (heap_page (a0, wi64 (a1.tdiv 32), ())).bind fun y1 =>
  bif decide (a1 < 0) then
    some (0, 0, false, ())
  else
  bif !y1.2.1 then
    some (0, 0, false, ())
  else
  bif y1.1.1 == 0 then
    some (0, 0, false, ())
  else
  (arena_Place (y1.1.2.1, a1, ())).bind fun y2 =>
  some (y2.1, y2.2.1, y2.2.2.1, ())
def heap_Find (x : Heap × Int × Unit) : Option (Int × Int × Bool × Unit) := heap_Find_r x.1 x.2.1
noncomputable def heap_Find_sm : Sum := ⟨(.cons cHeap (.cons cI .nil)), (.cons (.d cI) (.cons (.d cI) (.cons (.d .bool) .nil))), heap_Find⟩
noncomputable def heap_Find_S : List (Nat × Sum) := [(97, heap_page_sm), (98, arena_Place_sm)]
noncomputable def heap_Find_fl : List (Nat × Func) := []
noncomputable def heap_Find_es : List AE := []
theorem heap_Find_den : (fun x => denFun TEv (look1 heap_Find_S) (look1 heap_Find_fl) (annOf heap_Find_es) 8 47 Go.Proofs.Tryd.f47 heap_Find_sm.a heap_Find_sm.r x) = heap_Find_sm.F := by kernel_rfl
theorem heap_Find_sem : SemOf Go.Proofs.Tryd.prog 47 heap_Find_sm :=
  semMk teOk (sl := heap_Find_S) (all_cons heap_page_sem (all_cons arena_Place_sem all_nil)) (fl := heap_Find_fl) (all_nil) (es := heap_Find_es) Go.Proofs.Tryd.func47 (by kernel_rfl) rfl (rng_none (by kernel_rfl) (by kernel_rfl)) (all_nil) rfl heap_Find_den

/-! ### flotsam/header.May -/
def header_May_r (a0 : Hdr) : Option (Bool × Unit) :=
  bif !a0.1 then
    some ((a0.1 == false) && ((a0.2.1 == false) && ((a0.2.2.1 == 0) && ((a0.2.2.2.1 == 0) && true))), ())
  else
  bif decide (a0.2.2.1 ≥ 0) then
    bif decide (a0.2.2.1 < 4) then
      bif decide (a0.2.2.2.1 ≥ 0) then
        bif decide (a0.2.2.1 < 0) then none else
        some (decide (a0.2.2.2.1 < (shiftI true .i64 2 a0.2.2.1)), ())
      else
      some (false, ())
    else
    some (false, ())
  else
  some (false, ())
def header_May (x : Hdr × Unit) : Option (Bool × Unit) := header_May_r x.1
noncomputable def header_May_sm : Sum := ⟨(.cons cHdr .nil), (.cons (.d .bool) .nil), header_May⟩
noncomputable def header_May_S : List (Nat × Sum) := []
noncomputable def header_May_fl : List (Nat × Func) := []
noncomputable def header_May_es : List AE := []
theorem header_May_den : (fun x => denFun TEv (look1 header_May_S) (look1 header_May_fl) (annOf header_May_es) 8 145 Go.Proofs.Tryd.f145 header_May_sm.a header_May_sm.r x) = header_May_sm.F := by kernel_rfl
theorem header_May_sem : SemOf Go.Proofs.Tryd.prog 145 header_May_sm :=
  semMk teOk (sl := header_May_S) (all_nil) (fl := header_May_fl) (all_nil) (es := header_May_es) Go.Proofs.Tryd.func145 (by kernel_rfl) rfl (rng_none (by kernel_rfl) (by kernel_rfl)) (all_nil) rfl header_May_den

/-! ### flotsam/header.Put -/
def header_Put_r (a0 : Hdr) : Option (Int × Bool × Unit) :=
  (header_May (a0, ())).bind fun y1 =>
  bif !y1.1 then
    some (0, false, ())
  else
  bif !a0.1 then
    some (0, true, ())
  else
  bif a0.2.1 then
    some (bitsI .or .u64 (wu64 (bitsI .or .i64 (bitsI .or .i64 128 (shiftI true .i64 a0.2.2.1 4)) (shiftI true .i64 a0.2.2.2.1 0))) 64, true, ())
  else
  some (wu64 (bitsI .or .i64 (bitsI .or .i64 128 (shiftI true .i64 a0.2.2.1 4)) (shiftI true .i64 a0.2.2.2.1 0)), true, ())
def header_Put (x : Hdr × Unit) : Option (Int × Bool × Unit) := header_Put_r x.1
noncomputable def header_Put_sm : Sum := ⟨(.cons cHdr .nil), (.cons (.d (.int .u64)) (.cons (.d .bool) .nil)), header_Put⟩
noncomputable def header_Put_S : List (Nat × Sum) := [(145, header_May_sm)]
noncomputable def header_Put_fl : List (Nat × Func) := []
noncomputable def header_Put_es : List AE := []
theorem header_Put_den : (fun x => denFun TEv (look1 header_Put_S) (look1 header_Put_fl) (annOf header_Put_es) 8 85 Go.Proofs.Tryd.f85 header_Put_sm.a header_Put_sm.r x) = header_Put_sm.F := by kernel_rfl
theorem header_Put_sem : SemOf Go.Proofs.Tryd.prog 85 header_Put_sm :=
  semMk teOk (sl := header_Put_S) (all_cons header_May_sem all_nil) (fl := header_Put_fl) (all_nil) (es := header_Put_es) Go.Proofs.Tryd.func85 (by kernel_rfl) rfl (rng_none (by kernel_rfl) (by kernel_rfl)) (all_nil) rfl header_Put_den

/-! ### flotsam/header.Get -/
def header_Get_r (a0 : Int) : Option (Hdr × Bool × Unit) :=
  (header_Put (((bitsI .and .u64 a0 128) != 0, (bitsI .and .u64 a0 64) != 0, wi64 (bitsI .and .u64 (shiftI false .u64 a0 4) 3), wi64 (bitsI .and .u64 (shiftI false .u64 a0 0) 15), ()), ())).bind fun y1 =>
  bif !y1.2.1 then
    some ((false, false, 0, 0, ()), false, ())
  else
  bif y1.1 != a0 then
    some ((false, false, 0, 0, ()), false, ())
  else
  some (((bitsI .and .u64 a0 128) != 0, (bitsI .and .u64 a0 64) != 0, wi64 (bitsI .and .u64 (shiftI false .u64 a0 4) 3), wi64 (bitsI .and .u64 (shiftI false .u64 a0 0) 15), ()), true, ())
def header_Get (x : Int × Unit) : Option (Hdr × Bool × Unit) := header_Get_r x.1
noncomputable def header_Get_sm : Sum := ⟨(.cons (.int .u64) .nil), (.cons (.cons (.d .bool) (.cons (.d .bool) (.cons (.d cI) (.cons (.d cI) .nil)))) (.cons (.d .bool) .nil)), header_Get⟩
noncomputable def header_Get_S : List (Nat × Sum) := [(85, header_Put_sm)]
noncomputable def header_Get_fl : List (Nat × Func) := []
noncomputable def header_Get_es : List AE := []
theorem header_Get_den : (fun x => denFun TEv (look1 header_Get_S) (look1 header_Get_fl) (annOf header_Get_es) 8 91 Go.Proofs.Tryd.f91 header_Get_sm.a header_Get_sm.r x) = header_Get_sm.F := by kernel_rfl
theorem header_Get_sem : SemOf Go.Proofs.Tryd.prog 91 header_Get_sm :=
  semMk teOk (sl := header_Get_S) (all_cons header_Put_sem all_nil) (fl := header_Get_fl) (all_nil) (es := header_Get_es) Go.Proofs.Tryd.func91 (by kernel_rfl) rfl (rng_none (by kernel_rfl) (by kernel_rfl)) (all_nil) rfl header_Get_den

/-! ### flotsam/object.Get -/
def object_Get_r (a0 : Heap) (a1 : Int) : Option (Hdr × Bool × Unit) :=
  (heap_Find (a0, a1, ())).bind fun y1 =>
  bif !y1.2.2.1 then
    some ((false, false, 0, 0, ()), false, ())
  else
  bif decide (0 ≤ a1) then
    bif decide (a1 < (a0.1.length : Int)) then
      (header_Get (a0.1.getD a1.toNat 0, ())).bind fun y2 =>
      bif !y2.2.1 then
        some ((false, false, 0, 0, ()), false, ())
      else
      bif !y2.1.1 then
        some ((false, false, 0, 0, ()), false, ())
      else
      bif decide ((wi64 (a1 + y2.1.2.2.2.1)) ≥ (wi64 ((wi64 (y1.1 + 1)) * 32))) then
        some ((false, false, 0, 0, ()), false, ())
      else
      some ((y2.1.1, y2.1.2.1, y2.1.2.2.1, y2.1.2.2.2.1, ()), true, ())
    else none
  else none
def object_Get (x : Heap × Int × Unit) : Option (Hdr × Bool × Unit) := object_Get_r x.1 x.2.1
noncomputable def object_Get_sm : Sum := ⟨(.cons cHeap (.cons cI .nil)), (.cons (.cons (.d .bool) (.cons (.d .bool) (.cons (.d cI) (.cons (.d cI) .nil)))) (.cons (.d .bool) .nil)), object_Get⟩
noncomputable def object_Get_S : List (Nat × Sum) := [(47, heap_Find_sm), (91, header_Get_sm)]
noncomputable def object_Get_fl : List (Nat × Func) := []
noncomputable def object_Get_es : List AE := []
theorem object_Get_den : (fun x => denFun TEv (look1 object_Get_S) (look1 object_Get_fl) (annOf object_Get_es) 8 41 Go.Proofs.Tryd.f41 object_Get_sm.a object_Get_sm.r x) = object_Get_sm.F := by kernel_rfl
theorem object_Get_sem : SemOf Go.Proofs.Tryd.prog 41 object_Get_sm :=
  semMk teOk (sl := object_Get_S) (all_cons heap_Find_sem (all_cons header_Get_sem all_nil)) (fl := object_Get_fl) (all_nil) (es := object_Get_es) Go.Proofs.Tryd.func41 (by kernel_rfl) rfl (rng_none (by kernel_rfl) (by kernel_rfl)) (all_nil) rfl object_Get_den

/-! ### flotsam/object.with -/
def object_with_r (a0 : Heap) (a1 : Int) (a2 : Int) : Option (Heap × Unit) :=
  (slices_Clone_uint64 (a0.1, ())).bind fun y1 =>
  (slices_Clone_api_Span (a0.2.1, ())).bind fun y2 =>
  bif decide (0 ≤ a1) then
    bif decide (a1 < (y1.1.length : Int)) then
      some ((y1.1.set a1.toNat a2, y2.1, a0.2.2), ())
    else none
  else none
def object_with (x : Heap × Int × Int × Unit) : Option (Heap × Unit) := object_with_r x.1 x.2.1 x.2.2.1
noncomputable def object_with_sm : Sum := ⟨(.cons cHeap (.cons cI (.cons (.int .u64) .nil))), (.cons (.cons (.own (.int .u64)) (.cons (.own cSpan) (.d (.cons .bool .nil)))) .nil), object_with⟩
noncomputable def object_with_S : List (Nat × Sum) := [(129, slices_Clone_uint64_sm), (130, slices_Clone_api_Span_sm)]
noncomputable def object_with_fl : List (Nat × Func) := []
noncomputable def object_with_es : List AE := []
theorem object_with_den : (fun x => denFun TEv (look1 object_with_S) (look1 object_with_fl) (annOf object_with_es) 8 84 Go.Proofs.Tryd.f84 object_with_sm.a object_with_sm.r x) = object_with_sm.F := by kernel_rfl
theorem object_with_sem : SemOf Go.Proofs.Tryd.prog 84 object_with_sm :=
  semMk teOk (sl := object_with_S) (all_cons slices_Clone_uint64_sem (all_cons slices_Clone_api_Span_sem all_nil)) (fl := object_with_fl) (all_nil) (es := object_with_es) Go.Proofs.Tryd.func84 (by kernel_rfl) rfl (rng_none (by kernel_rfl) (by kernel_rfl)) (all_nil) rfl object_with_den

/-! ### flotsam/object.Paint -/
def object_Paint_r (a0 : Heap) (a1 : Int) : Option (Heap × Bool × Unit) :=
  (object_Get (a0, a1, ())).bind fun y1 =>
  bif !y1.2.1 then
    some (a0, false, ())
  else
  (header_Put ((y1.1.1, a0.2.2.1, y1.1.2.2.1, y1.1.2.2.2.1, ()), ())).bind fun y2 =>
  (object_with (a0, a1, y2.1, ())).bind fun y3 =>
  some ((y3.1.1, y3.1.2.1, y3.1.2.2), true, ())
def object_Paint (x : Heap × Int × Unit) : Option (Heap × Bool × Unit) := object_Paint_r x.1 x.2.1
noncomputable def object_Paint_sm : Sum := ⟨(.cons cHeap (.cons cI .nil)), (.cons (.d cHeap) (.cons (.d .bool) .nil)), object_Paint⟩
noncomputable def object_Paint_S : List (Nat × Sum) := [(41, object_Get_sm), (84, object_with_sm), (85, header_Put_sm)]
noncomputable def object_Paint_fl : List (Nat × Func) := []
noncomputable def object_Paint_es : List AE := []
theorem object_Paint_den : (fun x => denFun TEv (look1 object_Paint_S) (look1 object_Paint_fl) (annOf object_Paint_es) 8 37 Go.Proofs.Tryd.f37 object_Paint_sm.a object_Paint_sm.r x) = object_Paint_sm.F := by kernel_rfl
theorem object_Paint_sem : SemOf Go.Proofs.Tryd.prog 37 object_Paint_sm :=
  semMk teOk (sl := object_Paint_S) (all_cons object_Get_sem (all_cons object_with_sem (all_cons header_Put_sem all_nil))) (fl := object_Paint_fl) (all_nil) (es := object_Paint_es) Go.Proofs.Tryd.func37 (by kernel_rfl) rfl (rng_none (by kernel_rfl) (by kernel_rfl)) (all_nil) rfl object_Paint_den

/-! ### flotsam/object.Black -/
def object_Black_r (a0 : Heap) (a1 : Int) : Option (Bool × Unit) :=
  (object_Get (a0, a1, ())).bind fun y1 =>
  bif y1.2.1 then
    some (y1.1.2.1 == a0.2.2.1, ())
  else
  some (false, ())
def object_Black (x : Heap × Int × Unit) : Option (Bool × Unit) := object_Black_r x.1 x.2.1
noncomputable def object_Black_sm : Sum := ⟨(.cons cHeap (.cons cI .nil)), (.cons (.d .bool) .nil), object_Black⟩
noncomputable def object_Black_S : List (Nat × Sum) := [(41, object_Get_sm)]
noncomputable def object_Black_fl : List (Nat × Func) := []
noncomputable def object_Black_es : List AE := []
theorem object_Black_den : (fun x => denFun TEv (look1 object_Black_S) (look1 object_Black_fl) (annOf object_Black_es) 8 81 Go.Proofs.Tryd.f81 object_Black_sm.a object_Black_sm.r x) = object_Black_sm.F := by kernel_rfl
theorem object_Black_sem : SemOf Go.Proofs.Tryd.prog 81 object_Black_sm :=
  semMk teOk (sl := object_Black_S) (all_cons object_Get_sem all_nil) (fl := object_Black_fl) (all_nil) (es := object_Black_es) Go.Proofs.Tryd.func81 (by kernel_rfl) rfl (rng_none (by kernel_rfl) (by kernel_rfl)) (all_nil) rfl object_Black_den

/-! ### flotsam/grey.Push -/
def grey_Push_r (a0 : Grey) (a1 : Int) : Option (Grey × Bool × Unit) :=
  bif decide ((a0.2.1.length : Int) ≥ a0.1) then
    some (a0, false, ())
  else
  bif decide (a1 < 0) then
    some (a0, false, ())
  else
  bif (a0.2.1.length : Int) == (a0.2.1.length : Int) then
    bif decide (0 ≤ (a0.2.1.length : Int)) then
      bif decide ((a0.2.1.length : Int) ≤ (a0.2.1.length : Int)) then
        bif ((a0.2.1.drop 0).take ((a0.2.1.length : Int).toNat - 0)).isEmpty || true then
          bif decide ((((a0.2.1.drop 0).take ((a0.2.1.length : Int).toNat - 0)).length + 1) * 8 ≤ 140737488355328) then
            some ((a0.1, ((a0.2.1.drop 0).take ((a0.2.1.length : Int).toNat - 0)) ++ [a1], a0.2.2), true, ())
          else none
        else none
      else none
    else none
  else none
def grey_Push (x : Grey × Int × Unit) : Option (Grey × Bool × Unit) := grey_Push_r x.1 x.2.1
noncomputable def grey_Push_sm : Sum := ⟨(.cons cGrey (.cons cI .nil)), (.cons (.d cGrey) (.cons (.d .bool) .nil)), grey_Push⟩
noncomputable def grey_Push_S : List (Nat × Sum) := []
noncomputable def grey_Push_fl : List (Nat × Func) := []
noncomputable def grey_Push_es : List AE := []
theorem grey_Push_den : (fun x => denFun TEv (look1 grey_Push_S) (look1 grey_Push_fl) (annOf grey_Push_es) 8 135 Go.Proofs.Tryd.f135 grey_Push_sm.a grey_Push_sm.r x) = grey_Push_sm.F := by kernel_rfl
theorem grey_Push_sem : SemOf Go.Proofs.Tryd.prog 135 grey_Push_sm :=
  semMk teOk (sl := grey_Push_S) (all_nil) (fl := grey_Push_fl) (all_nil) (es := grey_Push_es) Go.Proofs.Tryd.func135 (by kernel_rfl) rfl (rng_none (by kernel_rfl) (by kernel_rfl)) (all_nil) rfl grey_Push_den

/-! ### flotsam/shade.Shade -/
def shade_Shade_r (a0 : Heap) (a1 : Grey) (a2 : Val) : Option (Heap × Grey × Bool × Unit) :=
  bif a2.1 != 2 then
    some (a0, a1, false, ())
  else
  (object_Black (a0, a2.2.1, ())).bind fun y1 =>
  bif y1.1 then
    some (a0, a1, false, ())
  else
  (object_Paint (a0, a2.2.1, ())).bind fun y2 =>
  bif !y2.2.1 then
    some (a0, a1, false, ())
  else
  (grey_Push (a1, a2.2.1, ())).bind fun y3 =>
  some (y2.1, y3.1, !y3.2.1, ())
def shade_Shade (x : Heap × Grey × Val × Unit) : Option (Heap × Grey × Bool × Unit) := shade_Shade_r x.1 x.2.1 x.2.2.1
noncomputable def shade_Shade_sm : Sum := ⟨(.cons cHeap (.cons cGrey (.cons cVal .nil))), (.cons (.d cHeap) (.cons (.d cGrey) (.cons (.d .bool) .nil))), shade_Shade⟩
noncomputable def shade_Shade_S : List (Nat × Sum) := [(37, object_Paint_sm), (81, object_Black_sm), (135, grey_Push_sm)]
noncomputable def shade_Shade_fl : List (Nat × Func) := []
noncomputable def shade_Shade_es : List AE := []
theorem shade_Shade_den : (fun x => denFun TEv (look1 shade_Shade_S) (look1 shade_Shade_fl) (annOf shade_Shade_es) 8 69 Go.Proofs.Tryd.f69 shade_Shade_sm.a shade_Shade_sm.r x) = shade_Shade_sm.F := by kernel_rfl
theorem shade_Shade_sem : SemOf Go.Proofs.Tryd.prog 69 shade_Shade_sm :=
  semMk teOk (sl := shade_Shade_S) (all_cons object_Paint_sem (all_cons object_Black_sem (all_cons grey_Push_sem all_nil))) (fl := shade_Shade_fl) (all_nil) (es := shade_Shade_es) Go.Proofs.Tryd.func69 (by kernel_rfl) rfl (rng_none (by kernel_rfl) (by kernel_rfl)) (all_nil) rfl shade_Shade_den

/-! ### flotsam/shade.All -/
def shade_All_s0r (v6 : List Val) (v7 : Int) (v8 : Int) (c32 : Bool × Unit) (c48_0 : Int) (c48_1 : Unit) (c128 : Heap × Grey × Bool × Unit) : Option (SRes (.cons (.sl cVal) (.cons cI (.cons cI (.cons (.cons .bool .nil) (.cons cI (.cons .nil (.cons (.cons cHeap (.cons cGrey (.cons .bool .nil))) .nil))))))) (.cons (.cons .bool .nil) (.cons cI (.cons .nil (.cons (.cons cHeap (.cons cGrey (.cons .bool .nil))) .nil)))) .nil) :=
  bif decide (v8 < v7) then
    bif decide (0 ≤ v8) then
      bif decide (v8 < (v6.length : Int)) then
        (shade_Shade (c128.1, c128.2.1, v6.getD v8.toNat (0, 0, ()), ())).bind fun y1 =>
        bif c128.2.2.1 then
          some (.next (v6, v7, wi64 (v8 + 1), c32, c48_0, c48_1, (y1.1, y1.2.1, true, c128.2.2.2), ()))
        else
        some (.next (v6, v7, wi64 (v8 + 1), c32, c48_0, c48_1, (y1.1, y1.2.1, y1.2.2.1, c128.2.2.2), ()))
      else none
    else none
  else
  some (.fin (.out (c32, c48_0, c48_1, c128, ())))
def shade_All_s0 (x : (List Val) × Int × Int × (Bool × Unit) × Int × Unit × (Heap × Grey × Bool × Unit) × Unit) : Option (SRes (.cons (.sl cVal) (.cons cI (.cons cI (.cons (.cons .bool .nil) (.cons cI (.cons .nil (.cons (.cons cHeap (.cons cGrey (.cons .bool .nil))) .nil))))))) (.cons (.cons .bool .nil) (.cons cI (.cons .nil (.cons (.cons cHeap (.cons cGrey (.cons .bool .nil))) .nil)))) .nil) := shade_All_s0r x.1 x.2.1 x.2.2.1 x.2.2.2.1 x.2.2.2.2.1 x.2.2.2.2.2.1 x.2.2.2.2.2.2.1
def shade_All_l0 (x : (List Val) × Int × Int × (Bool × Unit) × Int × Unit × (Heap × Grey × Bool × Unit) × Unit) : Option (LRes (.cons (.cons .bool .nil) (.cons cI (.cons .nil (.cons (.cons cHeap (.cons cGrey (.cons .bool .nil))) .nil)))) .nil) := iterL (h := (.cons (.sl cVal) (.cons cI (.cons cI (.cons (.cons .bool .nil) (.cons cI (.cons .nil (.cons (.cons cHeap (.cons cGrey (.cons .bool .nil))) .nil)))))))) (o := (.cons (.cons .bool .nil) (.cons cI (.cons .nil (.cons (.cons cHeap (.cons cGrey (.cons .bool .nil))) .nil))))) (r := .nil) shade_All_s0 9223372036854775808 x
def shade_All_r (a0 : Heap) (a1 : Grey) (a2 : List Val) : Option (Heap × Grey × Bool × Unit) :=
  (shade_All_l0 (a2, (a2.length : Int), 0, (false, ()), 0, (), (a0, a1, false, ()), ())).bind fun s2 => match s2 with
  | .out s2 =>
    some (s2.2.2.2.1.1, s2.2.2.2.1.2.1, s2.2.2.2.1.2.2.1, ())
  | .ret s2 =>
    none
def shade_All (x : Heap × Grey × (List Val) × Unit) : Option (Heap × Grey × Bool × Unit) := shade_All_r x.1 x.2.1 x.2.2.1
noncomputable def shade_All_sm : Sum := ⟨(.cons cHeap (.cons cGrey (.cons (.sl cVal) .nil))), (.cons (.d cHeap) (.cons (.d cGrey) (.cons (.d .bool) .nil))), shade_All⟩
noncomputable def shade_All_L0 : LoopSum := { hc := ⟨[], [1, 6, 7, 8], [], [], [32, 48, 128], [], 272⟩, h := ⟨[(1, (.fn 74 (.cons (.pvar 128 []) .nil) .nil)), (6, (.d (.sl cVal))), (7, (.d cI)), (8, (.d cI))], [(32, (.cons .nilsl (.cons .nilsl (.d (.cons .bool .nil))))), (48, (.cons (.d cI) (.cons .nilsl (.d .nil)))), (128, (.d (.cons cHeap (.cons cGrey (.cons .bool .nil)))))], [], 272⟩, xid := 0, oc := ⟨[], [], [], [], [32, 48, 128], [], 272⟩, o := ⟨[], [(32, (.cons .nilsl (.cons .nilsl (.d (.cons .bool .nil))))), (48, (.cons (.d cI) (.cons .nilsl (.d .nil)))), (128, (.d (.cons cHeap (.cons cGrey (.cons .bool .nil)))))], [], 272⟩, rc := ⟨[], [], [], [], [272], [], 272⟩, r := ⟨[], [], [], 272⟩, F := shade_All_l0 }
noncomputable def shade_All_S : List (Nat × Sum) := [(69, shade_Shade_sm)]
noncomputable def shade_All_fl : List (Nat × Func) := [(73, Go.Proofs.Tryd.f73), (74, Go.Proofs.Tryd.f74)]
noncomputable def shade_All_es : List AE := [⟨7, 73, 224, 0, shade_All_L0⟩]
theorem shade_All_den0 : (fun x => denStep TEv (look1 shade_All_S) (look1 shade_All_fl) (annOf shade_All_es) 7 73 Go.Proofs.Tryd.f73.ntmps 224 (cat (bodyOf Go.Proofs.Tryd.f73) [true, false, false]) shade_All_L0 x) = shade_All_s0 := by kernel_rfl
theorem shade_All_den : (fun x => denFun TEv (look1 shade_All_S) (look1 shade_All_fl) (annOf shade_All_es) 8 24 Go.Proofs.Tryd.f24 shade_All_sm.a shade_All_sm.r x) = shade_All_sm.F := by kernel_rfl
theorem shade_All_ok0 : AEok Go.Proofs.Tryd.prog TEv (look1 shade_All_S) (look1 shade_All_fl) (annOf shade_All_es) ⟨7, 73, 224, 0, shade_All_L0⟩ := aeok_of 9223372036854775808 Go.Proofs.Tryd.func73 (by kernel_rfl) shade_All_den0 (by kernel_rfl)
theorem shade_All_sem : SemOf Go.Proofs.Tryd.prog 24 shade_All_sm :=
  semMk teOk (sl := shade_All_S) (all_cons shade_Shade_sem all_nil) (fl := shade_All_fl) (all_cons ⟨⟨Go.Proofs.Tryd.func73, by kernel_rfl⟩, rng_none (by kernel_rfl) (by kernel_rfl)⟩ (all_cons ⟨⟨Go.Proofs.Tryd.func74, by kernel_rfl⟩, rng_none (by kernel_rfl) (by kernel_rfl)⟩ (all_nil))) (es := shade_All_es) Go.Proofs.Tryd.func24 (by kernel_rfl) rfl (rng_none (by kernel_rfl) (by kernel_rfl)) (all_cons shade_All_ok0 (all_nil)) rfl shade_All_den

/-! ### flotsam/flotsamref08.Ints -/
def flotsamref08_Ints_s0r (v0 : List Int) (v1 : List Int) (v5 : Int) : Option (SRes (.cons (.sl cI) (.cons (.sl cI) (.cons cI .nil))) .nil (.cons .bool .nil)) :=
  bif decide (v5 < (v0.length : Int)) then
    bif decide (0 ≤ v5) then
      bif decide (v5 < (v0.length : Int)) then
        bif decide (0 ≤ v5) then
          bif decide (v5 < (v1.length : Int)) then
            bif (v0.getD v5.toNat 0) != (v1.getD v5.toNat 0) then
              some (.fin (.ret (false, ())))
            else
            some (.next (v0, v1, wi64 (v5 + 1), ()))
          else none
        else none
      else none
    else none
  else
  some (.fin (.out ()))
def flotsamref08_Ints_s0 (x : (List Int) × (List Int) × Int × Unit) : Option (SRes (.cons (.sl cI) (.cons (.sl cI) (.cons cI .nil))) .nil (.cons .bool .nil)) := flotsamref08_Ints_s0r x.1 x.2.1 x.2.2.1
def flotsamref08_Ints_l0 (x : (List Int) × (List Int) × Int × Unit) : Option (LRes .nil (.cons .bool .nil)) := iterL (h := (.cons (.sl cI) (.cons (.sl cI) (.cons cI .nil)))) (o := .nil) (r := (.cons .bool .nil)) flotsamref08_Ints_s0 9223372036854775808 x
def flotsamref08_Ints_r (a0 : List Int) (a1 : List Int) : Option (Bool × Unit) :=
  bif (a0.length : Int) != (a1.length : Int) then
    some (false, ())
  else
  (flotsamref08_Ints_l0 (a0, a1, 0, ())).bind fun s1 => match s1 with
  | .out s1 =>
    some (true, ())
  | .ret s1 =>
    some (s1.1, ())
def flotsamref08_Ints (x : (List Int) × (List Int) × Unit) : Option (Bool × Unit) := flotsamref08_Ints_r x.1 x.2.1
noncomputable def flotsamref08_Ints_sm : Sum := ⟨(.cons (.sl cI) (.cons (.sl cI) .nil)), (.cons (.d .bool) .nil), flotsamref08_Ints⟩
noncomputable def flotsamref08_Ints_L0 : LoopSum := { hc := ⟨[], [0, 1, 5], [], [], [], [], 112⟩, h := ⟨[(0, (.d (.sl cI))), (1, (.d (.sl cI))), (5, (.d cI))], [], [], 112⟩, xid := 0, oc := ⟨[], [], [], [], [], [], 112⟩, o := ⟨[], [], [], 112⟩, rc := ⟨[], [4], [], [], [], [], 112⟩, r := ⟨[(4, (.d .bool))], [], [], 112⟩, F := flotsamref08_Ints_l0 }
noncomputable def flotsamref08_Ints_S : List (Nat × Sum) := []
noncomputable def flotsamref08_Ints_fl : List (Nat × Func) := []
noncomputable def flotsamref08_Ints_es : List AE := [⟨8, 26, 0, 0, flotsamref08_Ints_L0⟩]
theorem flotsamref08_Ints_den0 : (fun x => denStep TEv (look1 flotsamref08_Ints_S) (look1 flotsamref08_Ints_fl) (annOf flotsamref08_Ints_es) 8 26 Go.Proofs.Tryd.f26.ntmps 0 (cat (bodyOf Go.Proofs.Tryd.f26) [true, true, false, true, false, false]) flotsamref08_Ints_L0 x) = flotsamref08_Ints_s0 := by kernel_rfl
theorem flotsamref08_Ints_den : (fun x => denFun TEv (look1 flotsamref08_Ints_S) (look1 flotsamref08_Ints_fl) (annOf flotsamref08_Ints_es) 8 26 Go.Proofs.Tryd.f26 flotsamref08_Ints_sm.a flotsamref08_Ints_sm.r x) = flotsamref08_Ints_sm.F := by kernel_rfl
theorem flotsamref08_Ints_ok0 : AEok Go.Proofs.Tryd.prog TEv (look1 flotsamref08_Ints_S) (look1 flotsamref08_Ints_fl) (annOf flotsamref08_Ints_es) ⟨8, 26, 0, 0, flotsamref08_Ints_L0⟩ := aeok_of 9223372036854775808 Go.Proofs.Tryd.func26 (by kernel_rfl) flotsamref08_Ints_den0 (by kernel_rfl)
theorem flotsamref08_Ints_sem : SemOf Go.Proofs.Tryd.prog 26 flotsamref08_Ints_sm :=
  semMk teOk (sl := flotsamref08_Ints_S) (all_nil) (fl := flotsamref08_Ints_fl) (all_nil) (es := flotsamref08_Ints_es) Go.Proofs.Tryd.func26 (by kernel_rfl) rfl (rng_none (by kernel_rfl) (by kernel_rfl)) (all_cons flotsamref08_Ints_ok0 (all_nil)) rfl flotsamref08_Ints_den

/-! ### flotsam/flotsamref13.Same -/
def flotsamref13_Same_r (a0 : Grey) (a1 : Grey) : Option (Bool × Unit) :=
  bif a0.1 == a1.1 then
    (flotsamref08_Ints (a0.2.1, a1.2.1, ())).bind fun y1 =>
    some (y1.1, ())
  else
  some (false, ())
def flotsamref13_Same (x : Grey × Grey × Unit) : Option (Bool × Unit) := flotsamref13_Same_r x.1 x.2.1
noncomputable def flotsamref13_Same_sm : Sum := ⟨(.cons cGrey (.cons cGrey .nil)), (.cons (.d .bool) .nil), flotsamref13_Same⟩
noncomputable def flotsamref13_Same_S : List (Nat × Sum) := [(26, flotsamref08_Ints_sm)]
noncomputable def flotsamref13_Same_fl : List (Nat × Func) := []
noncomputable def flotsamref13_Same_es : List AE := []
theorem flotsamref13_Same_den : (fun x => denFun TEv (look1 flotsamref13_Same_S) (look1 flotsamref13_Same_fl) (annOf flotsamref13_Same_es) 8 32 Go.Proofs.Tryd.f32 flotsamref13_Same_sm.a flotsamref13_Same_sm.r x) = flotsamref13_Same_sm.F := by kernel_rfl
theorem flotsamref13_Same_sem : SemOf Go.Proofs.Tryd.prog 32 flotsamref13_Same_sm :=
  semMk teOk (sl := flotsamref13_Same_S) (all_cons flotsamref08_Ints_sem all_nil) (fl := flotsamref13_Same_fl) (all_nil) (es := flotsamref13_Same_es) Go.Proofs.Tryd.func32 (by kernel_rfl) rfl (rng_none (by kernel_rfl) (by kernel_rfl)) (all_nil) rfl flotsamref13_Same_den

/-! ### flotsam/flotsamref04.Blocks -/
def flotsamref04_Blocks_s0r (v0 : Int) (v3 : Int) (v4 : Int) : Option (SRes (.cons cI cVal) (.cons cI .nil) .nil) :=
  bif decide (v4 < v0) then
    some (.next (v0, wi64 (v3.tdiv 2), wi64 (v4 + 1), ()))
  else
  some (.fin (.out (v3, ())))
def flotsamref04_Blocks_s0 (x : Int × Val) : Option (SRes (.cons cI cVal) (.cons cI .nil) .nil) := flotsamref04_Blocks_s0r x.1 x.2.1 x.2.2.1
def flotsamref04_Blocks_l0 (x : Int × Val) : Option (LRes (.cons cI .nil) .nil) := iterL (h := (.cons cI cVal)) (o := (.cons cI .nil)) (r := .nil) flotsamref04_Blocks_s0 9223372036854775808 x
def flotsamref04_Blocks_r (a0 : Int) : Option (Int × Unit) :=
  bif decide (a0 < 0) then
    some (0, ())
  else
  bif decide (a0 > 3) then
    some (0, ())
  else
  (flotsamref04_Blocks_l0 (a0, 16, 0, ())).bind fun s1 => match s1 with
  | .out s1 =>
    some (s1.1, ())
  | .ret s1 =>
    none
def flotsamref04_Blocks (x : Int × Unit) : Option (Int × Unit) := flotsamref04_Blocks_r x.1
noncomputable def flotsamref04_Blocks_sm : Sum := ⟨(.cons cI .nil), (.cons (.d cI) .nil), flotsamref04_Blocks⟩
noncomputable def flotsamref04_Blocks_L0 : LoopSum := { hc := ⟨[], [0, 3, 4], [], [], [], [], 144⟩, h := ⟨[(0, (.d cI)), (3, (.d cI)), (4, (.d cI))], [], [], 144⟩, xid := 0, oc := ⟨[], [3], [], [], [], [], 144⟩, o := ⟨[(3, (.d cI))], [], [], 144⟩, rc := ⟨[], [], [], [], [144], [], 144⟩, r := ⟨[], [], [], 144⟩, F := flotsamref04_Blocks_l0 }
noncomputable def flotsamref04_Blocks_S : List (Nat × Sum) := []
noncomputable def flotsamref04_Blocks_fl : List (Nat × Func) := []
noncomputable def flotsamref04_Blocks_es : List AE := [⟨8, 99, 0, 0, flotsamref04_Blocks_L0⟩]
theorem flotsamref04_Blocks_den0 : (fun x => denStep TEv (look1 flotsamref04_Blocks_S) (look1 flotsamref04_Blocks_fl) (annOf flotsamref04_Blocks_es) 8 99 Go.Proofs.Tryd.f99.ntmps 0 (cat (bodyOf Go.Proofs.Tryd.f99) [true, true, true, false, true, false, false]) flotsamref04_Blocks_L0 x) = flotsamref04_Blocks_s0 := by kernel_rfl
theorem flotsamref04_Blocks_den : (fun x => denFun TEv (look1 flotsamref04_Blocks_S) (look1 flotsamref04_Blocks_fl) (annOf flotsamref04_Blocks_es) 8 99 Go.Proofs.Tryd.f99 flotsamref04_Blocks_sm.a flotsamref04_Blocks_sm.r x) = flotsamref04_Blocks_sm.F := by kernel_rfl
theorem flotsamref04_Blocks_ok0 : AEok Go.Proofs.Tryd.prog TEv (look1 flotsamref04_Blocks_S) (look1 flotsamref04_Blocks_fl) (annOf flotsamref04_Blocks_es) ⟨8, 99, 0, 0, flotsamref04_Blocks_L0⟩ := aeok_of 9223372036854775808 Go.Proofs.Tryd.func99 (by kernel_rfl) flotsamref04_Blocks_den0 (by kernel_rfl)
theorem flotsamref04_Blocks_sem : SemOf Go.Proofs.Tryd.prog 99 flotsamref04_Blocks_sm :=
  semMk teOk (sl := flotsamref04_Blocks_S) (all_nil) (fl := flotsamref04_Blocks_fl) (all_nil) (es := flotsamref04_Blocks_es) Go.Proofs.Tryd.func99 (by kernel_rfl) rfl (rng_none (by kernel_rfl) (by kernel_rfl)) (all_cons flotsamref04_Blocks_ok0 (all_nil)) rfl flotsamref04_Blocks_den

/-! ### flotsam/flotsamref07.with -/
def flotsamref07_with_s0r (v1 : Int) (v8 : Int) (c0 : Heap) (c16 : Span) (c32 : Bool × Unit) (c96 : Bool × Unit) (r192 : List Int) (r256 : List Span) : Option (SRes (.cons cI (.cons cI (.cons cHeap (.cons cSpan (.cons (.cons .bool .nil) (.cons (.cons .bool .nil) (.cons (.sl (.int .u64)) (.cons (.sl cSpan) .nil)))))))) (.cons (.cons .bool .nil) (.cons (.cons .bool .nil) (.cons (.sl (.int .u64)) (.cons (.sl cSpan) .nil)))) .nil) :=
  bif decide (v8 < (c0.2.1.length : Int)) then
    bif decide (0 ≤ v8) then
      bif decide (v8 < (c0.2.1.length : Int)) then
        bif v8 == v1 then
          bif decide ((r256.length + 1) * 24 ≤ 140737488355328) then
            some (.next (v1, wi64 (v8 + 1), c0, c16, c32, c96, r192, r256 ++ [c16], ()))
          else none
        else
        bif decide ((r256.length + 1) * 24 ≤ 140737488355328) then
          some (.next (v1, wi64 (v8 + 1), c0, c16, c32, c96, r192, r256 ++ [c0.2.1.getD v8.toNat (0, 0, 0, ())], ()))
        else none
      else none
    else none
  else
  some (.fin (.out (c32, c96, r192, r256, ())))
def flotsamref07_with_s0 (x : Int × Int × Heap × Span × (Bool × Unit) × (Bool × Unit) × (List Int) × (List Span) × Unit) : Option (SRes (.cons cI (.cons cI (.cons cHeap (.cons cSpan (.cons (.cons .bool .nil) (.cons (.cons .bool .nil) (.cons (.sl (.int .u64)) (.cons (.sl cSpan) .nil)))))))) (.cons (.cons .bool .nil) (.cons (.cons .bool .nil) (.cons (.sl (.int .u64)) (.cons (.sl cSpan) .nil)))) .nil) := flotsamref07_with_s0r x.1 x.2.1 x.2.2.1 x.2.2.2.1 x.2.2.2.2.1 x.2.2.2.2.2.1 x.2.2.2.2.2.2.1 x.2.2.2.2.2.2.2.1
def flotsamref07_with_l0 (x : Int × Int × Heap × Span × (Bool × Unit) × (Bool × Unit) × (List Int) × (List Span) × Unit) : Option (LRes (.cons (.cons .bool .nil) (.cons (.cons .bool .nil) (.cons (.sl (.int .u64)) (.cons (.sl cSpan) .nil)))) .nil) := iterL (h := (.cons cI (.cons cI (.cons cHeap (.cons cSpan (.cons (.cons .bool .nil) (.cons (.cons .bool .nil) (.cons (.sl (.int .u64)) (.cons (.sl cSpan) .nil))))))))) (o := (.cons (.cons .bool .nil) (.cons (.cons .bool .nil) (.cons (.sl (.int .u64)) (.cons (.sl cSpan) .nil))))) (r := .nil) flotsamref07_with_s0 9223372036854775808 x
def flotsamref07_with_r (a0 : Heap) (a1 : Int) (a2 : Span) : Option (Heap × Unit) :=
  bif decide (a0.1.length * 8 ≤ 140737488355328) then
    (flotsamref07_with_l0 (a1, 0, a0, a2, (false, ()), (a0.2.2.1, ()), a0.1, [], ())).bind fun s1 => match s1 with
    | .out s1 =>
      some ((s1.2.2.1, s1.2.2.2.1, s1.2.1), ())
    | .ret s1 =>
      none
  else none
def flotsamref07_with (x : Heap × Int × Span × Unit) : Option (Heap × Unit) := flotsamref07_with_r x.1 x.2.1 x.2.2.1
noncomputable def flotsamref07_with_sm : Sum := ⟨(.cons cHeap (.cons cI (.cons cSpan .nil))), (.cons (.cons (.own (.int .u64)) (.cons (.own cSpan) (.d (.cons .bool .nil)))) .nil), flotsamref07_with⟩
noncomputable def flotsamref07_with_L0 : LoopSum := { hc := ⟨[], [1, 3, 5, 6, 7, 8], [(.key 96 [.fld 1], cSpan)], [], [0, 16, 32, 96], [192], 256⟩, h := ⟨[(1, (.d cI)), (3, (.pvar 0 [])), (5, (.pvar 16 [])), (6, (.pvar 32 [])), (7, (.pvar 96 [])), (8, (.d cI))], [(0, (.d cHeap)), (16, (.d cSpan)), (32, (.cons .nilsl (.cons .nilsl (.d (.cons .bool .nil))))), (96, (.cons (.row 192) (.cons (.row 256) (.d (.cons .bool .nil)))))], [(192, (.int .u64), true), (256, cSpan, true)], 257⟩, xid := 0, oc := ⟨[], [6, 7], [(.ptr 7 [.fld 1], cSpan)], [], [32, 96], [192], 256⟩, o := ⟨[(6, (.pvar 32 [])), (7, (.pvar 96 []))], [(32, (.cons .nilsl (.cons .nilsl (.d (.cons .bool .nil))))), (96, (.cons (.row 192) (.cons (.row 256) (.d (.cons .bool .nil)))))], [(192, (.int .u64), true), (256, cSpan, true)], 257⟩, rc := ⟨[], [], [], [], [256], [], 256⟩, r := ⟨[], [], [], 256⟩, F := flotsamref07_with_l0 }
noncomputable def flotsamref07_with_S : List (Nat × Sum) := []
noncomputable def flotsamref07_with_fl : List (Nat × Func) := []
noncomputable def flotsamref07_with_es : List AE := [⟨8, 107, 0, 0, flotsamref07_with_L0⟩]
theorem flotsamref07_with_den0 : (fun x => denStep TEv (look1 flotsamref07_with_S) (look1 flotsamref07_with_fl) (annOf flotsamref07_with_es) 8 107 Go.Proofs.Tryd.f107.ntmps 0 (cat (bodyOf Go.Proofs.Tryd.f107) [true, true, true, false, true, false, false]) flotsamref07_with_L0 x) = flotsamref07_with_s0 := by kernel_rfl
theorem flotsamref07_with_den : (fun x => denFun TEv (look1 flotsamref07_with_S) (look1 flotsamref07_with_fl) (annOf flotsamref07_with_es) 8 107 Go.Proofs.Tryd.f107 flotsamref07_with_sm.a flotsamref07_with_sm.r x) = flotsamref07_with_sm.F := by kernel_rfl
theorem flotsamref07_with_ok0 : AEok Go.Proofs.Tryd.prog TEv (look1 flotsamref07_with_S) (look1 flotsamref07_with_fl) (annOf flotsamref07_with_es) ⟨8, 107, 0, 0, flotsamref07_with_L0⟩ := aeok_of 9223372036854775808 Go.Proofs.Tryd.func107 (by kernel_rfl) flotsamref07_with_den0 (by kernel_rfl)
theorem flotsamref07_with_sem : SemOf Go.Proofs.Tryd.prog 107 flotsamref07_with_sm :=
  semMk teOk (sl := flotsamref07_with_S) (all_nil) (fl := flotsamref07_with_fl) (all_nil) (es := flotsamref07_with_es) Go.Proofs.Tryd.func107 (by kernel_rfl) rfl (rng_none (by kernel_rfl) (by kernel_rfl)) (all_cons flotsamref07_with_ok0 (all_nil)) rfl flotsamref07_with_den

/-! ### flotsam/flotsamref03.Of -/
def flotsamref03_Of_s0r (v3 : Int) (v4 : Int) (c0 : List Bool) : Option (SRes (.cons (.int .u32) (.cons cI (.cons (.arr 32 .bool) .nil))) (.cons (.int .u32) .nil) .nil) :=
  bif decide (v4 ≥ 0) then
    bif decide (0 ≤ v4) then
      bif decide (v4 < 32) then
        bif c0.getD v4.toNat false then
          some (.next (wu32 ((wu32 (2 * v3)) + 1), wi64 (v4 - 1), c0, ()))
        else
        some (.next (wu32 (2 * v3), wi64 (v4 - 1), c0, ()))
      else none
    else none
  else
  some (.fin (.out (v3, ())))
def flotsamref03_Of_s0 (x : Int × Int × (List Bool) × Unit) : Option (SRes (.cons (.int .u32) (.cons cI (.cons (.arr 32 .bool) .nil))) (.cons (.int .u32) .nil) .nil) := flotsamref03_Of_s0r x.1 x.2.1 x.2.2.1
def flotsamref03_Of_l0 (x : Int × Int × (List Bool) × Unit) : Option (LRes (.cons (.int .u32) .nil) .nil) := iterL (h := (.cons (.int .u32) (.cons cI (.cons (.arr 32 .bool) .nil)))) (o := (.cons (.int .u32) .nil)) (r := .nil) flotsamref03_Of_s0 9223372036854775808 x
def flotsamref03_Of_r (a0 : List Bool) : Option (Int × Unit) :=
  (flotsamref03_Of_l0 (0, 31, a0, ())).bind fun s1 => match s1 with
  | .out s1 =>
    some (s1.1, ())
  | .ret s1 =>
    none
def flotsamref03_Of (x : (List Bool) × Unit) : Option (Int × Unit) := flotsamref03_Of_r x.1
noncomputable def flotsamref03_Of_sm : Sum := ⟨(.cons (.arr 32 .bool) .nil), (.cons (.d (.int .u32)) .nil), flotsamref03_Of⟩
noncomputable def flotsamref03_Of_L0 : LoopSum := { hc := ⟨[], [1, 3, 4], [], [], [0], [], 64⟩, h := ⟨[(1, (.pvar 0 [])), (3, (.d (.int .u32))), (4, (.d cI))], [(0, (.d (.arr 32 .bool)))], [], 64⟩, xid := 0, oc := ⟨[], [3], [], [], [], [], 64⟩, o := ⟨[(3, (.d (.int .u32)))], [], [], 64⟩, rc := ⟨[], [], [], [], [64], [], 64⟩, r := ⟨[], [], [], 64⟩, F := flotsamref03_Of_l0 }
noncomputable def flotsamref03_Of_S : List (Nat × Sum) := []
noncomputable def flotsamref03_Of_fl : List (Nat × Func) := []
noncomputable def flotsamref03_Of_es : List AE := [⟨8, 154, 0, 0, flotsamref03_Of_L0⟩]
theorem flotsamref03_Of_den0 : (fun x => denStep TEv (look1 flotsamref03_Of_S) (look1 flotsamref03_Of_fl) (annOf flotsamref03_Of_es) 8 154 Go.Proofs.Tryd.f154.ntmps 0 (cat (bodyOf Go.Proofs.Tryd.f154) [true, true, false, true, false, false]) flotsamref03_Of_L0 x) = flotsamref03_Of_s0 := by kernel_rfl
theorem flotsamref03_Of_den : (fun x => denFun TEv (look1 flotsamref03_Of_S) (look1 flotsamref03_Of_fl) (annOf flotsamref03_Of_es) 8 154 Go.Proofs.Tryd.f154 flotsamref03_Of_sm.a flotsamref03_Of_sm.r x) = flotsamref03_Of_sm.F := by kernel_rfl
theorem flotsamref03_Of_ok0 : AEok Go.Proofs.Tryd.prog TEv (look1 flotsamref03_Of_S) (look1 flotsamref03_Of_fl) (annOf flotsamref03_Of_es) ⟨8, 154, 0, 0, flotsamref03_Of_L0⟩ := aeok_of 9223372036854775808 Go.Proofs.Tryd.func154 (by kernel_rfl) flotsamref03_Of_den0 (by kernel_rfl)
theorem flotsamref03_Of_sem : SemOf Go.Proofs.Tryd.prog 154 flotsamref03_Of_sm :=
  semMk teOk (sl := flotsamref03_Of_S) (all_nil) (fl := flotsamref03_Of_fl) (all_nil) (es := flotsamref03_Of_es) Go.Proofs.Tryd.func154 (by kernel_rfl) rfl (rng_none (by kernel_rfl) (by kernel_rfl)) (all_cons flotsamref03_Of_ok0 (all_nil)) rfl flotsamref03_Of_den
end Go.Proofs.YtdfhopakojmjkaaDoor.Den
