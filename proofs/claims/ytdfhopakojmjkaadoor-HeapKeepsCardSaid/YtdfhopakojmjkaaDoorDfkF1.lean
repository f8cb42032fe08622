/- What functions come to. Printed by a program of this session. -/
import Derived.Test.YtdfhopakojmjkaaDoorDfkF0
namespace Go.Proofs.YtdfhopakojmjkaaDoor.Dfk
open Go
set_option maxRecDepth 100000
set_option linter.unusedVariables false
def str256 : ByteArray := ⟨#[0, 1, 1, 2, 1, 2, 2, 3, 1, 2, 2, 3, 2, 3, 3, 4, 1, 2, 2, 3, 2, 3, 3, 4, 2, 3, 3, 4, 3, 4, 4, 5, 1, 2, 2, 3, 2, 3, 3, 4, 2, 3, 3, 4, 3, 4, 4, 5, 2, 3, 3, 4, 3, 4, 4, 5, 3, 4, 4, 5, 4, 5, 5, 6, 1, 2, 2, 3, 2, 3, 3, 4, 2, 3, 3, 4, 3, 4, 4, 5, 2, 3, 3, 4, 3, 4, 4, 5, 3, 4, 4, 5, 4, 5, 5, 6, 2, 3, 3, 4, 3, 4, 4, 5, 3, 4, 4, 5, 4, 5, 5, 6, 3, 4, 4, 5, 4, 5, 5, 6, 4, 5, 5, 6, 5, 6, 6, 7, 1, 2, 2, 3, 2, 3, 3, 4, 2, 3, 3, 4, 3, 4, 4, 5, 2, 3, 3, 4, 3, 4, 4, 5, 3, 4, 4, 5, 4, 5, 5, 6, 2, 3, 3, 4, 3, 4, 4, 5, 3, 4, 4, 5, 4, 5, 5, 6, 3, 4, 4, 5, 4, 5, 5, 6, 4, 5, 5, 6, 5, 6, 6, 7, 2, 3, 3, 4, 3, 4, 4, 5, 3, 4, 4, 5, 4, 5, 5, 6, 3, 4, 4, 5, 4, 5, 5, 6, 4, 5, 5, 6, 5, 6, 6, 7, 3, 4, 4, 5, 4, 5, 5, 6, 4, 5, 5, 6, 5, 6, 6, 7, 4, 5, 5, 6, 5, 6, 6, 7, 5, 6, 6, 7, 6, 7, 7, 8]⟩
/-! ### math/bits.OnesCount32 -/
def math_bits_OnesCount32_r (a0 : Int) : Option (Int × Unit) :=
  bif decide (0 ≤ (shiftI false .u32 a0 24)) then
    bif decide ((shiftI false .u32 a0 24) < 256) then
      bif decide (0 ≤ (bitsI .and .u32 (shiftI false .u32 a0 16) 255)) then
        bif decide ((bitsI .and .u32 (shiftI false .u32 a0 16) 255) < 256) then
          bif decide (0 ≤ (bitsI .and .u32 (shiftI false .u32 a0 8) 255)) then
            bif decide ((bitsI .and .u32 (shiftI false .u32 a0 8) 255) < 256) then
              bif decide (0 ≤ (bitsI .and .u32 a0 255)) then
                bif decide ((bitsI .and .u32 a0 255) < 256) then
                  some (wi64 (wu8 ((wu8 ((wu8 (((str256.data.toList.getD (shiftI false .u32 a0 24).toNat 0).toNat : Int) + ((str256.data.toList.getD (bitsI .and .u32 (shiftI false .u32 a0 16) 255).toNat 0).toNat : Int))) + ((str256.data.toList.getD (bitsI .and .u32 (shiftI false .u32 a0 8) 255).toNat 0).toNat : Int))) + ((str256.data.toList.getD (bitsI .and .u32 a0 255).toNat 0).toNat : Int))), ())
                else none
              else none
            else none
          else none
        else none
      else none
    else none
  else none
def math_bits_OnesCount32 (x : Int × Unit) : Option (Int × Unit) := math_bits_OnesCount32_r x.1
noncomputable def math_bits_OnesCount32_sm : Sum := ⟨(.cons (.int .u32) .nil), (.cons (.d cI) .nil), math_bits_OnesCount32⟩
noncomputable def math_bits_OnesCount32_S : List (Nat × Sum) := []
noncomputable def math_bits_OnesCount32_fl : List (Nat × Func) := []
noncomputable def math_bits_OnesCount32_es : List AE := []
theorem math_bits_OnesCount32_den : (fun x => denFun TEv (look1 math_bits_OnesCount32_S) (look1 math_bits_OnesCount32_fl) (annOf math_bits_OnesCount32_es) 8 169 Go.Proofs.Tryd.f169 math_bits_OnesCount32_sm.a math_bits_OnesCount32_sm.r x) = math_bits_OnesCount32_sm.F := by kernel_rfl
theorem math_bits_OnesCount32_sem : SemOf Go.Proofs.Tryd.prog 169 math_bits_OnesCount32_sm :=
  semMk teOk (sl := math_bits_OnesCount32_S) (all_nil) (fl := math_bits_OnesCount32_fl) (all_nil) (es := math_bits_OnesCount32_es) Go.Proofs.Tryd.func169 (by kernel_rfl) rfl (all_nil) rfl math_bits_OnesCount32_den

/-! ### flotsam/bits.Count -/
def bits_Count_r (a0 : Int) : Option (Int × Unit) :=
  (math_bits_OnesCount32 (a0, ())).bind fun y1 =>
  some (y1.1, ())
def bits_Count (x : Int × Unit) : Option (Int × Unit) := bits_Count_r x.1
noncomputable def bits_Count_sm : Sum := ⟨(.cons (.int .u32) .nil), (.cons (.d cI) .nil), bits_Count⟩
noncomputable def bits_Count_S : List (Nat × Sum) := [(169, math_bits_OnesCount32_sm)]
noncomputable def bits_Count_fl : List (Nat × Func) := []
noncomputable def bits_Count_es : List AE := []
theorem bits_Count_den : (fun x => denFun TEv (look1 bits_Count_S) (look1 bits_Count_fl) (annOf bits_Count_es) 8 151 Go.Proofs.Tryd.f151 bits_Count_sm.a bits_Count_sm.r x) = bits_Count_sm.F := by kernel_rfl
theorem bits_Count_sem : SemOf Go.Proofs.Tryd.prog 151 bits_Count_sm :=
  semMk teOk (sl := bits_Count_S) (all_cons math_bits_OnesCount32_sem all_nil) (fl := bits_Count_fl) (all_nil) (es := bits_Count_es) Go.Proofs.Tryd.func151 (by kernel_rfl) rfl (all_nil) rfl bits_Count_den

/-! ### flotsam/span.Used -/
def span_Used_r (a0 : Span) : Option (Int × Unit) :=
  (span_inUse (a0, ())).bind fun y1 =>
  bif !y1.1 then
    some (0, ())
  else
  (class_Blocks (a0.2.1, ())).bind fun y2 =>
  (bits_Count (a0.2.2.1, ())).bind fun y3 =>
  some (wi64 (y2.1 - y3.1), ())
def span_Used (x : Span × Unit) : Option (Int × Unit) := span_Used_r x.1
noncomputable def span_Used_sm : Sum := ⟨(.cons cSpan .nil), (.cons (.d cI) .nil), span_Used⟩
noncomputable def span_Used_S : List (Nat × Sum) := [(147, class_Blocks_sm), (149, span_inUse_sm), (151, bits_Count_sm)]
noncomputable def span_Used_fl : List (Nat × Func) := []
noncomputable def span_Used_es : List AE := []
theorem span_Used_den : (fun x => denFun TEv (look1 span_Used_S) (look1 span_Used_fl) (annOf span_Used_es) 8 101 Go.Proofs.Tryd.f101 span_Used_sm.a span_Used_sm.r x) = span_Used_sm.F := by kernel_rfl
theorem span_Used_sem : SemOf Go.Proofs.Tryd.prog 101 span_Used_sm :=
  semMk teOk (sl := span_Used_S) (all_cons class_Blocks_sem (all_cons span_inUse_sem (all_cons bits_Count_sem all_nil))) (fl := span_Used_fl) (all_nil) (es := span_Used_es) Go.Proofs.Tryd.func101 (by kernel_rfl) rfl (all_nil) rfl span_Used_den

/-! ### flotsam/heap.Used -/
def heap_Used_s0r (v3 : Int) (v7 : List Span) (v8 : Int) (v9 : Int) : Option (SRes (.cons cI (.cons (.sl cSpan) cVal)) (.cons cI .nil) .nil) :=
  bif decide (v9 < v8) then
    bif decide (0 ≤ v9) then
      bif decide (v9 < (v7.length : Int)) then
        (span_Used (v7.getD v9.toNat (0, 0, 0, ()), ())).bind fun y1 =>
        (class_Words ((v7.getD v9.toNat (0, 0, 0, ())).2.1, ())).bind fun y2 =>
        some (.next (wi64 (v3 + (wi64 (y1.1 * y2.1))), v7, v8, wi64 (v9 + 1), ()))
      else none
    else none
  else
  some (.fin (.out (v3, ())))
def heap_Used_s0 (x : Int × (List Span) × Val) : Option (SRes (.cons cI (.cons (.sl cSpan) cVal)) (.cons cI .nil) .nil) := heap_Used_s0r x.1 x.2.1 x.2.2.1 x.2.2.2.1
def heap_Used_l0 (x : Int × (List Span) × Val) : Option (LRes (.cons cI .nil) .nil) := iterL (h := (.cons cI (.cons (.sl cSpan) cVal))) (o := (.cons cI .nil)) (r := .nil) heap_Used_s0 9223372036854775808 x
def heap_Used_r (a0 : Heap) : Option (Int × Unit) :=
  (heap_Used_l0 (0, a0.2.1, (a0.2.1.length : Int), 0, ())).bind fun s3 => match s3 with
  | .out s3 =>
    some (s3.1, ())
  | .ret s3 =>
    none
def heap_Used (x : Heap × Unit) : Option (Int × Unit) := heap_Used_r x.1
noncomputable def heap_Used_sm : Sum := ⟨(.cons cHeap .nil), (.cons (.d cI) .nil), heap_Used⟩
noncomputable def heap_Used_L0 : LoopSum := { hc := ⟨[], [3, 7, 8, 9], [], [], [], [], 112⟩, h := ⟨[(3, (.d cI)), (7, (.d (.sl cSpan))), (8, (.d cI)), (9, (.d cI))], [], [], 112⟩, xid := 0, oc := ⟨[], [3], [], [], [], [], 112⟩, o := ⟨[(3, (.d cI))], [], [], 112⟩, rc := ⟨[], [], [], [], [], [], 112⟩, r := ⟨[], [], [], 112⟩, F := heap_Used_l0 }
noncomputable def heap_Used_S : List (Nat × Sum) := [(101, span_Used_sm), (102, class_Words_sm)]
noncomputable def heap_Used_fl : List (Nat × Func) := []
noncomputable def heap_Used_es : List AE := [⟨8, 49, 0, 0, heap_Used_L0⟩]
theorem heap_Used_den0 : (fun x => denStep TEv (look1 heap_Used_S) (look1 heap_Used_fl) (annOf heap_Used_es) 8 49 Go.Proofs.Tryd.f49.ntmps 0 (cat (bodyOf Go.Proofs.Tryd.f49) [true, true, false, true, false, false]) heap_Used_L0 x) = heap_Used_s0 := by kernel_rfl
theorem heap_Used_den : (fun x => denFun TEv (look1 heap_Used_S) (look1 heap_Used_fl) (annOf heap_Used_es) 8 49 Go.Proofs.Tryd.f49 heap_Used_sm.a heap_Used_sm.r x) = heap_Used_sm.F := by kernel_rfl
theorem heap_Used_ok0 : AEok Go.Proofs.Tryd.prog TEv (look1 heap_Used_S) (look1 heap_Used_fl) (annOf heap_Used_es) ⟨8, 49, 0, 0, heap_Used_L0⟩ := aeok_of 9223372036854775808 Go.Proofs.Tryd.func49 (by kernel_rfl) heap_Used_den0 (by kernel_rfl)
theorem heap_Used_sem : SemOf Go.Proofs.Tryd.prog 49 heap_Used_sm :=
  semMk teOk (sl := heap_Used_S) (all_cons span_Used_sem (all_cons class_Words_sem all_nil)) (fl := heap_Used_fl) (all_nil) (es := heap_Used_es) Go.Proofs.Tryd.func49 (by kernel_rfl) rfl (all_cons heap_Used_ok0 (all_nil)) rfl heap_Used_den

/-! ### flotsam/span.New -/
def span_New_r (a0 : Int) : Option (Span × Bool × Unit) :=
  (class_Blocks (a0, ())).bind fun y1 =>
  bif y1.1 == 0 then
    some ((0, 0, 0, ()), false, ())
  else
  (span_whole (a0, ())).bind fun y2 =>
  some ((1, a0, y2.1, ()), true, ())
def span_New (x : Int × Unit) : Option (Span × Bool × Unit) := span_New_r x.1
noncomputable def span_New_sm : Sum := ⟨(.cons cI .nil), (.cons (.cons (.d cI) (.cons (.d cI) (.cons (.d (.int .u32)) .nil))) (.cons (.d .bool) .nil)), span_New⟩
noncomputable def span_New_S : List (Nat × Sum) := [(147, class_Blocks_sm), (150, span_whole_sm)]
noncomputable def span_New_fl : List (Nat × Func) := []
noncomputable def span_New_es : List AE := []
theorem span_New_den : (fun x => denFun TEv (look1 span_New_S) (look1 span_New_fl) (annOf span_New_es) 8 106 Go.Proofs.Tryd.f106 span_New_sm.a span_New_sm.r x) = span_New_sm.F := by kernel_rfl
theorem span_New_sem : SemOf Go.Proofs.Tryd.prog 106 span_New_sm :=
  semMk teOk (sl := span_New_S) (all_cons class_Blocks_sem (all_cons span_whole_sem all_nil)) (fl := span_New_fl) (all_nil) (es := span_New_es) Go.Proofs.Tryd.func106 (by kernel_rfl) rfl (all_nil) rfl span_New_den

/-! ### flotsam/heap.Open -/
def heap_Open_r (a0 : Heap) (a1 : Int) (a2 : Int) : Option (Heap × Bool × Unit) :=
  (heap_page (a0, a1, ())).bind fun y1 =>
  bif !y1.2.1 then
    some (a0, false, ())
  else
  (span_New (a2, ())).bind fun y2 =>
  bif y2.2.1 then
    bif !(y1.1.1 == 0) then
      some (a0, false, ())
    else
    (slices_Clone_uint64 (a0.1, ())).bind fun y3 =>
    (slices_Clone_api_Span (a0.2.1, ())).bind fun y4 =>
    bif decide (0 ≤ a1) then
      bif decide (a1 < (y4.1.length : Int)) then
        some ((y3.1, y4.1.set a1.toNat (y2.1.1, y2.1.2.1, y2.1.2.2.1, ()), a0.2.2), true, ())
      else none
    else none
  else
  some (a0, false, ())
def heap_Open (x : Heap × Val) : Option (Heap × Bool × Unit) := heap_Open_r x.1 x.2.1 x.2.2.1
noncomputable def heap_Open_sm : Sum := ⟨(.cons cHeap cVal), (.cons (.d cHeap) (.cons (.d .bool) .nil)), heap_Open⟩
noncomputable def heap_Open_S : List (Nat × Sum) := [(97, heap_page_sm), (106, span_New_sm), (129, slices_Clone_uint64_sm), (130, slices_Clone_api_Span_sm)]
noncomputable def heap_Open_fl : List (Nat × Func) := [(104, Go.Proofs.Tryd.f104), (105, Go.Proofs.Tryd.f105)]
noncomputable def heap_Open_es : List AE := []
theorem heap_Open_den : (fun x => denFun TEv (look1 heap_Open_S) (look1 heap_Open_fl) (annOf heap_Open_es) 8 51 Go.Proofs.Tryd.f51 heap_Open_sm.a heap_Open_sm.r x) = heap_Open_sm.F := by kernel_rfl
theorem heap_Open_sem : SemOf Go.Proofs.Tryd.prog 51 heap_Open_sm :=
  semMk teOk (sl := heap_Open_S) (all_cons heap_page_sem (all_cons span_New_sem (all_cons slices_Clone_uint64_sem (all_cons slices_Clone_api_Span_sem all_nil)))) (fl := heap_Open_fl) (all_cons ⟨Go.Proofs.Tryd.func104, by kernel_rfl⟩ (all_cons ⟨Go.Proofs.Tryd.func105, by kernel_rfl⟩ (all_nil))) (es := heap_Open_es) Go.Proofs.Tryd.func51 (by kernel_rfl) rfl (all_nil) rfl heap_Open_den

/-! ### flotsam/heap.Open -/
def heap_Open_o_r (a0 : Heap) (a1 : Int) (a2 : Int) : Option (Heap × Bool × Unit) :=
  (heap_page (a0, a1, ())).bind fun y1 =>
  bif !y1.2.1 then none else
  (span_New (a2, ())).bind fun y2 =>
  bif y2.2.1 then
    bif !(y1.1.1 == 0) then none else
    (slices_Clone_uint64 (a0.1, ())).bind fun y3 =>
    (slices_Clone_api_Span (a0.2.1, ())).bind fun y4 =>
    bif decide (0 ≤ a1) then
      bif decide (a1 < (y4.1.length : Int)) then
        some ((y3.1, y4.1.set a1.toNat (y2.1.1, y2.1.2.1, y2.1.2.2.1, ()), a0.2.2), true, ())
      else none
    else none
  else none
def heap_Open_o (x : Heap × Val) : Option (Heap × Bool × Unit) := heap_Open_o_r x.1 x.2.1 x.2.2.1
noncomputable def heap_Open_o_sm : Sum := ⟨(.cons cHeap cVal), (.cons (.cons (.own (.int .u64)) (.cons (.own cSpan) (.d (.cons .bool .nil)))) (.cons (.d .bool) .nil)), heap_Open_o⟩
noncomputable def heap_Open_o_S : List (Nat × Sum) := [(97, heap_page_sm), (106, span_New_sm), (129, slices_Clone_uint64_sm), (130, slices_Clone_api_Span_sm)]
noncomputable def heap_Open_o_fl : List (Nat × Func) := [(104, Go.Proofs.Tryd.f104), (105, Go.Proofs.Tryd.f105)]
noncomputable def heap_Open_o_es : List AE := []
theorem heap_Open_o_den : (fun x => denFun TEv (look1 heap_Open_o_S) (look1 heap_Open_o_fl) (annOf heap_Open_o_es) 8 51 Go.Proofs.Tryd.f51 heap_Open_o_sm.a heap_Open_o_sm.r x) = heap_Open_o_sm.F := by kernel_rfl
theorem heap_Open_o_sem : SemOf Go.Proofs.Tryd.prog 51 heap_Open_o_sm :=
  semMk teOk (sl := heap_Open_o_S) (all_cons heap_page_sem (all_cons span_New_sem (all_cons slices_Clone_uint64_sem (all_cons slices_Clone_api_Span_sem all_nil)))) (fl := heap_Open_o_fl) (all_cons ⟨Go.Proofs.Tryd.func104, by kernel_rfl⟩ (all_cons ⟨Go.Proofs.Tryd.func105, by kernel_rfl⟩ (all_nil))) (es := heap_Open_o_es) Go.Proofs.Tryd.func51 (by kernel_rfl) rfl (all_nil) rfl heap_Open_o_den

/-! ### flotsam/heap.Open -/
def heap_Open_n_r (a0 : Heap) (a1 : Int) (a2 : Int) : Option (Unit × Bool × Unit) :=
  (heap_page (a0, a1, ())).bind fun y1 =>
  bif !y1.2.1 then
    some ((), false, ())
  else
  (span_New (a2, ())).bind fun y2 =>
  bif y2.2.1 then
    bif !(y1.1.1 == 0) then
      some ((), false, ())
    else
    (slices_Clone_uint64 (a0.1, ())).bind fun y3 =>
    (slices_Clone_api_Span (a0.2.1, ())).bind fun y4 =>
    bif decide (0 ≤ a1) then
      bif decide (a1 < (y4.1.length : Int)) then
        some ((), true, ())
      else none
    else none
  else
  some ((), false, ())
def heap_Open_n (x : Heap × Val) : Option (Unit × Bool × Unit) := heap_Open_n_r x.1 x.2.1 x.2.2.1
noncomputable def heap_Open_n_sm : Sum := ⟨(.cons cHeap cVal), (.cons (.no cHeap) (.cons (.d .bool) .nil)), heap_Open_n⟩
noncomputable def heap_Open_n_S : List (Nat × Sum) := [(97, heap_page_sm), (106, span_New_sm), (129, slices_Clone_uint64_sm), (130, slices_Clone_api_Span_sm)]
noncomputable def heap_Open_n_fl : List (Nat × Func) := [(104, Go.Proofs.Tryd.f104), (105, Go.Proofs.Tryd.f105)]
noncomputable def heap_Open_n_es : List AE := []
theorem heap_Open_n_den : (fun x => denFun TEv (look1 heap_Open_n_S) (look1 heap_Open_n_fl) (annOf heap_Open_n_es) 8 51 Go.Proofs.Tryd.f51 heap_Open_n_sm.a heap_Open_n_sm.r x) = heap_Open_n_sm.F := by kernel_rfl
theorem heap_Open_n_sem : SemOf Go.Proofs.Tryd.prog 51 heap_Open_n_sm :=
  semMk teOk (sl := heap_Open_n_S) (all_cons heap_page_sem (all_cons span_New_sem (all_cons slices_Clone_uint64_sem (all_cons slices_Clone_api_Span_sem all_nil)))) (fl := heap_Open_n_fl) (all_cons ⟨Go.Proofs.Tryd.func104, by kernel_rfl⟩ (all_cons ⟨Go.Proofs.Tryd.func105, by kernel_rfl⟩ (all_nil))) (es := heap_Open_n_es) Go.Proofs.Tryd.func51 (by kernel_rfl) rfl (all_nil) rfl heap_Open_n_den

/-! ### flotsam/span.Empty -/
def span_Empty_r (a0 : Span) : Option (Bool × Unit) :=
  (span_inUse (a0, ())).bind fun y1 =>
  bif y1.1 then
    (span_whole (a0.2.1, ())).bind fun y2 =>
    some (a0.2.2.1 == y2.1, ())
  else
  some (false, ())
def span_Empty (x : Span × Unit) : Option (Bool × Unit) := span_Empty_r x.1
noncomputable def span_Empty_sm : Sum := ⟨(.cons cSpan .nil), (.cons (.d .bool) .nil), span_Empty⟩
noncomputable def span_Empty_S : List (Nat × Sum) := [(149, span_inUse_sm), (150, span_whole_sm)]
noncomputable def span_Empty_fl : List (Nat × Func) := []
noncomputable def span_Empty_es : List AE := []
theorem span_Empty_den : (fun x => denFun TEv (look1 span_Empty_S) (look1 span_Empty_fl) (annOf span_Empty_es) 8 110 Go.Proofs.Tryd.f110 span_Empty_sm.a span_Empty_sm.r x) = span_Empty_sm.F := by kernel_rfl
theorem span_Empty_sem : SemOf Go.Proofs.Tryd.prog 110 span_Empty_sm :=
  semMk teOk (sl := span_Empty_S) (all_cons span_inUse_sem (all_cons span_whole_sem all_nil)) (fl := span_Empty_fl) (all_nil) (es := span_Empty_es) Go.Proofs.Tryd.func110 (by kernel_rfl) rfl (all_nil) rfl span_Empty_den

/-! ### flotsam/heap.Close$1 -/
def heap_Close_1_r (a0 : Span) : Option (Span × Bool × Unit) :=
  (span_Empty (a0, ())).bind fun y1 =>
  some ((0, 0, 0, ()), y1.1, ())
def heap_Close_1 (x : Span × Unit) : Option (Span × Bool × Unit) := heap_Close_1_r x.1
noncomputable def heap_Close_1_sm : Sum := ⟨(.cons cSpan .nil), (.cons (.cons (.d cI) (.cons (.d cI) (.cons (.d (.int .u32)) .nil))) (.cons (.d .bool) .nil)), heap_Close_1⟩
noncomputable def heap_Close_1_S : List (Nat × Sum) := [(110, span_Empty_sm)]
noncomputable def heap_Close_1_fl : List (Nat × Func) := []
noncomputable def heap_Close_1_es : List AE := []
theorem heap_Close_1_den : (fun x => denFun TEv (look1 heap_Close_1_S) (look1 heap_Close_1_fl) (annOf heap_Close_1_es) 8 109 Go.Proofs.Tryd.f109 heap_Close_1_sm.a heap_Close_1_sm.r x) = heap_Close_1_sm.F := by kernel_rfl
theorem heap_Close_1_sem : SemOf Go.Proofs.Tryd.prog 109 heap_Close_1_sm :=
  semMk teOk (sl := heap_Close_1_S) (all_cons span_Empty_sem all_nil) (fl := heap_Close_1_fl) (all_nil) (es := heap_Close_1_es) Go.Proofs.Tryd.func109 (by kernel_rfl) rfl (all_nil) rfl heap_Close_1_den

/-! ### flotsam/heap.Close -/
def heap_Close_r (a0 : Heap) (a1 : Int) : Option (Heap × Bool × Unit) :=
  (heap_page (a0, a1, ())).bind fun y1 =>
  bif !y1.2.1 then
    some (a0, false, ())
  else
  (heap_Close_1 (y1.1, ())).bind fun y2 =>
  bif !y2.2.1 then
    some (a0, false, ())
  else
  (slices_Clone_uint64 (a0.1, ())).bind fun y3 =>
  (slices_Clone_api_Span (a0.2.1, ())).bind fun y4 =>
  bif decide (0 ≤ a1) then
    bif decide (a1 < (y4.1.length : Int)) then
      some ((y3.1, y4.1.set a1.toNat (y2.1.1, y2.1.2.1, y2.1.2.2.1, ()), a0.2.2), true, ())
    else none
  else none
def heap_Close (x : Heap × Int × Unit) : Option (Heap × Bool × Unit) := heap_Close_r x.1 x.2.1
noncomputable def heap_Close_sm : Sum := ⟨(.cons cHeap (.cons cI .nil)), (.cons (.d cHeap) (.cons (.d .bool) .nil)), heap_Close⟩
noncomputable def heap_Close_S : List (Nat × Sum) := [(97, heap_page_sm), (109, heap_Close_1_sm), (129, slices_Clone_uint64_sm), (130, slices_Clone_api_Span_sm)]
noncomputable def heap_Close_fl : List (Nat × Func) := [(104, Go.Proofs.Tryd.f104)]
noncomputable def heap_Close_es : List AE := []
theorem heap_Close_den : (fun x => denFun TEv (look1 heap_Close_S) (look1 heap_Close_fl) (annOf heap_Close_es) 8 53 Go.Proofs.Tryd.f53 heap_Close_sm.a heap_Close_sm.r x) = heap_Close_sm.F := by kernel_rfl
theorem heap_Close_sem : SemOf Go.Proofs.Tryd.prog 53 heap_Close_sm :=
  semMk teOk (sl := heap_Close_S) (all_cons heap_page_sem (all_cons heap_Close_1_sem (all_cons slices_Clone_uint64_sem (all_cons slices_Clone_api_Span_sem all_nil)))) (fl := heap_Close_fl) (all_cons ⟨Go.Proofs.Tryd.func104, by kernel_rfl⟩ (all_nil)) (es := heap_Close_es) Go.Proofs.Tryd.func53 (by kernel_rfl) rfl (all_nil) rfl heap_Close_den

/-! ### flotsam/heap.Close -/
def heap_Close_n_r (a0 : Heap) (a1 : Int) : Option (Unit × Bool × Unit) :=
  (heap_page (a0, a1, ())).bind fun y1 =>
  bif !y1.2.1 then
    some ((), false, ())
  else
  (heap_Close_1 (y1.1, ())).bind fun y2 =>
  bif !y2.2.1 then
    some ((), false, ())
  else
  (slices_Clone_uint64 (a0.1, ())).bind fun y3 =>
  (slices_Clone_api_Span (a0.2.1, ())).bind fun y4 =>
  bif decide (0 ≤ a1) then
    bif decide (a1 < (y4.1.length : Int)) then
      some ((), true, ())
    else none
  else none
def heap_Close_n (x : Heap × Int × Unit) : Option (Unit × Bool × Unit) := heap_Close_n_r x.1 x.2.1
noncomputable def heap_Close_n_sm : Sum := ⟨(.cons cHeap (.cons cI .nil)), (.cons (.no cHeap) (.cons (.d .bool) .nil)), heap_Close_n⟩
noncomputable def heap_Close_n_S : List (Nat × Sum) := [(97, heap_page_sm), (109, heap_Close_1_sm), (129, slices_Clone_uint64_sm), (130, slices_Clone_api_Span_sm)]
noncomputable def heap_Close_n_fl : List (Nat × Func) := [(104, Go.Proofs.Tryd.f104)]
noncomputable def heap_Close_n_es : List AE := []
theorem heap_Close_n_den : (fun x => denFun TEv (look1 heap_Close_n_S) (look1 heap_Close_n_fl) (annOf heap_Close_n_es) 8 53 Go.Proofs.Tryd.f53 heap_Close_n_sm.a heap_Close_n_sm.r x) = heap_Close_n_sm.F := by kernel_rfl
theorem heap_Close_n_sem : SemOf Go.Proofs.Tryd.prog 53 heap_Close_n_sm :=
  semMk teOk (sl := heap_Close_n_S) (all_cons heap_page_sem (all_cons heap_Close_1_sem (all_cons slices_Clone_uint64_sem (all_cons slices_Clone_api_Span_sem all_nil)))) (fl := heap_Close_n_fl) (all_cons ⟨Go.Proofs.Tryd.func104, by kernel_rfl⟩ (all_nil)) (es := heap_Close_n_es) Go.Proofs.Tryd.func53 (by kernel_rfl) rfl (all_nil) rfl heap_Close_n_den

/-! ### flotsam/bits.Has -/
def bits_Has_r (a0 : Int) (a1 : Int) : Option (Bool × Unit) :=
  (bits_one (a1, ())).bind fun y1 =>
  some ((bitsI .and .u32 a0 y1.1) != 0, ())
def bits_Has (x : Int × Int × Unit) : Option (Bool × Unit) := bits_Has_r x.1 x.2.1
noncomputable def bits_Has_sm : Sum := ⟨(.cons (.int .u32) (.cons cI .nil)), (.cons (.d .bool) .nil), bits_Has⟩
noncomputable def bits_Has_S : List (Nat × Sum) := [(170, bits_one_sm)]
noncomputable def bits_Has_fl : List (Nat × Func) := []
noncomputable def bits_Has_es : List AE := []
theorem bits_Has_den : (fun x => denFun TEv (look1 bits_Has_S) (look1 bits_Has_fl) (annOf bits_Has_es) 8 155 Go.Proofs.Tryd.f155 bits_Has_sm.a bits_Has_sm.r x) = bits_Has_sm.F := by kernel_rfl
theorem bits_Has_sem : SemOf Go.Proofs.Tryd.prog 155 bits_Has_sm :=
  semMk teOk (sl := bits_Has_S) (all_cons bits_one_sem all_nil) (fl := bits_Has_fl) (all_nil) (es := bits_Has_es) Go.Proofs.Tryd.func155 (by kernel_rfl) rfl (all_nil) rfl bits_Has_den

/-! ### flotsam/bits.With -/
def bits_With_r (a0 : Int) (a1 : Int) : Option (Int × Unit) :=
  (bits_one (a1, ())).bind fun y1 =>
  some (bitsI .or .u32 a0 y1.1, ())
def bits_With (x : Int × Int × Unit) : Option (Int × Unit) := bits_With_r x.1 x.2.1
noncomputable def bits_With_sm : Sum := ⟨(.cons (.int .u32) (.cons cI .nil)), (.cons (.d (.int .u32)) .nil), bits_With⟩
noncomputable def bits_With_S : List (Nat × Sum) := [(170, bits_one_sm)]
noncomputable def bits_With_fl : List (Nat × Func) := []
noncomputable def bits_With_es : List AE := []
theorem bits_With_den : (fun x => denFun TEv (look1 bits_With_S) (look1 bits_With_fl) (annOf bits_With_es) 8 156 Go.Proofs.Tryd.f156 bits_With_sm.a bits_With_sm.r x) = bits_With_sm.F := by kernel_rfl
theorem bits_With_sem : SemOf Go.Proofs.Tryd.prog 156 bits_With_sm :=
  semMk teOk (sl := bits_With_S) (all_cons bits_one_sem all_nil) (fl := bits_With_fl) (all_nil) (es := bits_With_es) Go.Proofs.Tryd.func156 (by kernel_rfl) rfl (all_nil) rfl bits_With_den

/-! ### flotsam/span.Give -/
def span_Give_r (a0 : Span) (a1 : Int) : Option (Span × Bool × Unit) :=
  (span_inUse (a0, ())).bind fun y1 =>
  bif !y1.1 then
    some (a0, false, ())
  else
  (span_whole (a0.2.1, ())).bind fun y2 =>
  (bits_Has (y2.1, a1, ())).bind fun y3 =>
  bif !y3.1 then
    some (a0, false, ())
  else
  (bits_Has (a0.2.2.1, a1, ())).bind fun y4 =>
  bif y4.1 then
    some (a0, false, ())
  else
  (bits_With (a0.2.2.1, a1, ())).bind fun y5 =>
  some ((a0.1, a0.2.1, y5.1, a0.2.2.2), true, ())
def span_Give (x : Span × Int × Unit) : Option (Span × Bool × Unit) := span_Give_r x.1 x.2.1
noncomputable def span_Give_sm : Sum := ⟨(.cons cSpan (.cons cI .nil)), (.cons (.d cSpan) (.cons (.d .bool) .nil)), span_Give⟩
noncomputable def span_Give_S : List (Nat × Sum) := [(149, span_inUse_sm), (150, span_whole_sm), (155, bits_Has_sm), (156, bits_With_sm)]
noncomputable def span_Give_fl : List (Nat × Func) := []
noncomputable def span_Give_es : List AE := []
theorem span_Give_den : (fun x => denFun TEv (look1 span_Give_S) (look1 span_Give_fl) (annOf span_Give_es) 8 112 Go.Proofs.Tryd.f112 span_Give_sm.a span_Give_sm.r x) = span_Give_sm.F := by kernel_rfl
theorem span_Give_sem : SemOf Go.Proofs.Tryd.prog 112 span_Give_sm :=
  semMk teOk (sl := span_Give_S) (all_cons span_inUse_sem (all_cons span_whole_sem (all_cons bits_Has_sem (all_cons bits_With_sem all_nil)))) (fl := span_Give_fl) (all_nil) (es := span_Give_es) Go.Proofs.Tryd.func112 (by kernel_rfl) rfl (all_nil) rfl span_Give_den

/-! ### flotsam/heap.Free -/
def heap_Free_r (a0 : Heap) (a1 : Int) : Option (Heap × Bool × Unit) :=
  (heap_Find (a0, a1, ())).bind fun y1 =>
  bif !y1.2.2.1 then
    some (a0, false, ())
  else
  (heap_page (a0, y1.1, ())).bind fun y2 =>
  bif !y2.2.1 then
    some (a0, false, ())
  else
  (span_Give (y2.1, y1.2.1, ())).bind fun y3 =>
  bif !y3.2.1 then
    some (a0, false, ())
  else
  (slices_Clone_uint64 (a0.1, ())).bind fun y4 =>
  (slices_Clone_api_Span (a0.2.1, ())).bind fun y5 =>
  bif decide (0 ≤ y1.1) then
    bif decide (y1.1 < (y5.1.length : Int)) then
      bif decide (0 ≤ y1.1) then
        bif decide (y1.1 < (a0.2.1.length : Int)) then
          (class_Words ((a0.2.1.getD y1.1.toNat (0, 0, 0, ())).2.1, ())).bind fun y6 =>
          bif decide (0 ≤ a1) then
            bif decide (a1 ≤ (wi64 (a1 + y6.1))) then
              bif decide ((wi64 (a1 + y6.1)) ≤ (y4.1.length : Int)) then
                some ((segSet y4.1 a1.toNat (List.replicate ((wi64 (a1 + y6.1)).toNat - a1.toNat) 0), y5.1.set y1.1.toNat y3.1, a0.2.2), true, ())
              else none
            else none
          else none
        else none
      else none
    else none
  else none
def heap_Free (x : Heap × Int × Unit) : Option (Heap × Bool × Unit) := heap_Free_r x.1 x.2.1
noncomputable def heap_Free_sm : Sum := ⟨(.cons cHeap (.cons cI .nil)), (.cons (.d cHeap) (.cons (.d .bool) .nil)), heap_Free⟩
noncomputable def heap_Free_S : List (Nat × Sum) := [(47, heap_Find_sm), (97, heap_page_sm), (102, class_Words_sm), (112, span_Give_sm), (129, slices_Clone_uint64_sm), (130, slices_Clone_api_Span_sm)]
noncomputable def heap_Free_fl : List (Nat × Func) := [(104, Go.Proofs.Tryd.f104), (111, Go.Proofs.Tryd.f111)]
noncomputable def heap_Free_es : List AE := []
theorem heap_Free_den : (fun x => denFun TEv (look1 heap_Free_S) (look1 heap_Free_fl) (annOf heap_Free_es) 8 55 Go.Proofs.Tryd.f55 heap_Free_sm.a heap_Free_sm.r x) = heap_Free_sm.F := by kernel_rfl
theorem heap_Free_sem : SemOf Go.Proofs.Tryd.prog 55 heap_Free_sm :=
  semMk teOk (sl := heap_Free_S) (all_cons heap_Find_sem (all_cons heap_page_sem (all_cons class_Words_sem (all_cons span_Give_sem (all_cons slices_Clone_uint64_sem (all_cons slices_Clone_api_Span_sem all_nil)))))) (fl := heap_Free_fl) (all_cons ⟨Go.Proofs.Tryd.func104, by kernel_rfl⟩ (all_cons ⟨Go.Proofs.Tryd.func111, by kernel_rfl⟩ (all_nil))) (es := heap_Free_es) Go.Proofs.Tryd.func55 (by kernel_rfl) rfl (all_nil) rfl heap_Free_den

/-! ### flotsam/heap.Free -/
def heap_Free_o_r (a0 : Heap) (a1 : Int) : Option (Heap × Bool × Unit) :=
  (heap_Find (a0, a1, ())).bind fun y1 =>
  bif !y1.2.2.1 then none else
  (heap_page (a0, y1.1, ())).bind fun y2 =>
  bif !y2.2.1 then none else
  (span_Give (y2.1, y1.2.1, ())).bind fun y3 =>
  bif !y3.2.1 then none else
  (slices_Clone_uint64 (a0.1, ())).bind fun y4 =>
  (slices_Clone_api_Span (a0.2.1, ())).bind fun y5 =>
  bif decide (0 ≤ y1.1) then
    bif decide (y1.1 < (y5.1.length : Int)) then
      bif decide (0 ≤ y1.1) then
        bif decide (y1.1 < (a0.2.1.length : Int)) then
          (class_Words ((a0.2.1.getD y1.1.toNat (0, 0, 0, ())).2.1, ())).bind fun y6 =>
          bif decide (0 ≤ a1) then
            bif decide (a1 ≤ (wi64 (a1 + y6.1))) then
              bif decide ((wi64 (a1 + y6.1)) ≤ (y4.1.length : Int)) then
                some ((segSet y4.1 a1.toNat (List.replicate ((wi64 (a1 + y6.1)).toNat - a1.toNat) 0), y5.1.set y1.1.toNat y3.1, a0.2.2), true, ())
              else none
            else none
          else none
        else none
      else none
    else none
  else none
def heap_Free_o (x : Heap × Int × Unit) : Option (Heap × Bool × Unit) := heap_Free_o_r x.1 x.2.1
noncomputable def heap_Free_o_sm : Sum := ⟨(.cons cHeap (.cons cI .nil)), (.cons (.cons (.own (.int .u64)) (.cons (.own cSpan) (.d (.cons .bool .nil)))) (.cons (.d .bool) .nil)), heap_Free_o⟩
noncomputable def heap_Free_o_S : List (Nat × Sum) := [(47, heap_Find_sm), (97, heap_page_sm), (102, class_Words_sm), (112, span_Give_sm), (129, slices_Clone_uint64_sm), (130, slices_Clone_api_Span_sm)]
noncomputable def heap_Free_o_fl : List (Nat × Func) := [(104, Go.Proofs.Tryd.f104), (111, Go.Proofs.Tryd.f111)]
noncomputable def heap_Free_o_es : List AE := []
theorem heap_Free_o_den : (fun x => denFun TEv (look1 heap_Free_o_S) (look1 heap_Free_o_fl) (annOf heap_Free_o_es) 8 55 Go.Proofs.Tryd.f55 heap_Free_o_sm.a heap_Free_o_sm.r x) = heap_Free_o_sm.F := by kernel_rfl
theorem heap_Free_o_sem : SemOf Go.Proofs.Tryd.prog 55 heap_Free_o_sm :=
  semMk teOk (sl := heap_Free_o_S) (all_cons heap_Find_sem (all_cons heap_page_sem (all_cons class_Words_sem (all_cons span_Give_sem (all_cons slices_Clone_uint64_sem (all_cons slices_Clone_api_Span_sem all_nil)))))) (fl := heap_Free_o_fl) (all_cons ⟨Go.Proofs.Tryd.func104, by kernel_rfl⟩ (all_cons ⟨Go.Proofs.Tryd.func111, by kernel_rfl⟩ (all_nil))) (es := heap_Free_o_es) Go.Proofs.Tryd.func55 (by kernel_rfl) rfl (all_nil) rfl heap_Free_o_den

/-! ### flotsam/heap.Free -/
def heap_Free_n_r (a0 : Heap) (a1 : Int) : Option (Unit × Bool × Unit) :=
  (heap_Find (a0, a1, ())).bind fun y1 =>
  bif !y1.2.2.1 then
    some ((), false, ())
  else
  (heap_page (a0, y1.1, ())).bind fun y2 =>
  bif !y2.2.1 then
    some ((), false, ())
  else
  (span_Give (y2.1, y1.2.1, ())).bind fun y3 =>
  bif !y3.2.1 then
    some ((), false, ())
  else
  (slices_Clone_uint64 (a0.1, ())).bind fun y4 =>
  (slices_Clone_api_Span (a0.2.1, ())).bind fun y5 =>
  bif decide (0 ≤ y1.1) then
    bif decide (y1.1 < (y5.1.length : Int)) then
      bif decide (0 ≤ y1.1) then
        bif decide (y1.1 < (a0.2.1.length : Int)) then
          (class_Words ((a0.2.1.getD y1.1.toNat (0, 0, 0, ())).2.1, ())).bind fun y6 =>
          bif decide (0 ≤ a1) then
            bif decide (a1 ≤ (wi64 (a1 + y6.1))) then
              bif decide ((wi64 (a1 + y6.1)) ≤ (y4.1.length : Int)) then
                some ((), true, ())
              else none
            else none
          else none
        else none
      else none
    else none
  else none
def heap_Free_n (x : Heap × Int × Unit) : Option (Unit × Bool × Unit) := heap_Free_n_r x.1 x.2.1
noncomputable def heap_Free_n_sm : Sum := ⟨(.cons cHeap (.cons cI .nil)), (.cons (.no cHeap) (.cons (.d .bool) .nil)), heap_Free_n⟩
noncomputable def heap_Free_n_S : List (Nat × Sum) := [(47, heap_Find_sm), (97, heap_page_sm), (102, class_Words_sm), (112, span_Give_sm), (129, slices_Clone_uint64_sm), (130, slices_Clone_api_Span_sm)]
noncomputable def heap_Free_n_fl : List (Nat × Func) := [(104, Go.Proofs.Tryd.f104), (111, Go.Proofs.Tryd.f111)]
noncomputable def heap_Free_n_es : List AE := []
theorem heap_Free_n_den : (fun x => denFun TEv (look1 heap_Free_n_S) (look1 heap_Free_n_fl) (annOf heap_Free_n_es) 8 55 Go.Proofs.Tryd.f55 heap_Free_n_sm.a heap_Free_n_sm.r x) = heap_Free_n_sm.F := by kernel_rfl
theorem heap_Free_n_sem : SemOf Go.Proofs.Tryd.prog 55 heap_Free_n_sm :=
  semMk teOk (sl := heap_Free_n_S) (all_cons heap_Find_sem (all_cons heap_page_sem (all_cons class_Words_sem (all_cons span_Give_sem (all_cons slices_Clone_uint64_sem (all_cons slices_Clone_api_Span_sem all_nil)))))) (fl := heap_Free_n_fl) (all_cons ⟨Go.Proofs.Tryd.func104, by kernel_rfl⟩ (all_cons ⟨Go.Proofs.Tryd.func111, by kernel_rfl⟩ (all_nil))) (es := heap_Free_n_es) Go.Proofs.Tryd.func55 (by kernel_rfl) rfl (all_nil) rfl heap_Free_n_den

/-! ### flotsam/header.May -/
def header_May_r (a0 : Hdr) : Option (Bool × Unit) :=
  bif !a0.1 then
    some ((a0.1 == false) && ((a0.2.1 == false) && ((a0.2.2.1 == 0) && ((a0.2.2.2.1 == 0) && true))), ())
  else
  bif decide (a0.2.2.1 ≥ 0) then
    bif decide (a0.2.2.1 < 4) then
      bif decide (a0.2.2.2.1 ≥ 0) then
        bif decide (a0.2.2.1 < 0) then none else
        some (decide (a0.2.2.2.1 < (shiftI true .i64 2 a0.2.2.1)), ())
      else
      some (false, ())
    else
    some (false, ())
  else
  some (false, ())
def header_May (x : Hdr × Unit) : Option (Bool × Unit) := header_May_r x.1
noncomputable def header_May_sm : Sum := ⟨(.cons cHdr .nil), (.cons (.d .bool) .nil), header_May⟩
noncomputable def header_May_S : List (Nat × Sum) := []
noncomputable def header_May_fl : List (Nat × Func) := []
noncomputable def header_May_es : List AE := []
theorem header_May_den : (fun x => denFun TEv (look1 header_May_S) (look1 header_May_fl) (annOf header_May_es) 8 145 Go.Proofs.Tryd.f145 header_May_sm.a header_May_sm.r x) = header_May_sm.F := by kernel_rfl
theorem header_May_sem : SemOf Go.Proofs.Tryd.prog 145 header_May_sm :=
  semMk teOk (sl := header_May_S) (all_nil) (fl := header_May_fl) (all_nil) (es := header_May_es) Go.Proofs.Tryd.func145 (by kernel_rfl) rfl (all_nil) rfl header_May_den

/-! ### flotsam/header.Put -/
def header_Put_r (a0 : Hdr) : Option (Int × Bool × Unit) :=
  (header_May (a0, ())).bind fun y1 =>
  bif !y1.1 then
    some (0, false, ())
  else
  bif !a0.1 then
    some (0, true, ())
  else
  bif a0.2.1 then
    some (bitsI .or .u64 (wu64 (bitsI .or .i64 (bitsI .or .i64 128 (shiftI true .i64 a0.2.2.1 4)) (shiftI true .i64 a0.2.2.2.1 0))) 64, true, ())
  else
  some (wu64 (bitsI .or .i64 (bitsI .or .i64 128 (shiftI true .i64 a0.2.2.1 4)) (shiftI true .i64 a0.2.2.2.1 0)), true, ())
def header_Put (x : Hdr × Unit) : Option (Int × Bool × Unit) := header_Put_r x.1
noncomputable def header_Put_sm : Sum := ⟨(.cons cHdr .nil), (.cons (.d (.int .u64)) (.cons (.d .bool) .nil)), header_Put⟩
noncomputable def header_Put_S : List (Nat × Sum) := [(145, header_May_sm)]
noncomputable def header_Put_fl : List (Nat × Func) := []
noncomputable def header_Put_es : List AE := []
theorem header_Put_den : (fun x => denFun TEv (look1 header_Put_S) (look1 header_Put_fl) (annOf header_Put_es) 8 85 Go.Proofs.Tryd.f85 header_Put_sm.a header_Put_sm.r x) = header_Put_sm.F := by kernel_rfl
theorem header_Put_sem : SemOf Go.Proofs.Tryd.prog 85 header_Put_sm :=
  semMk teOk (sl := header_Put_S) (all_cons header_May_sem all_nil) (fl := header_Put_fl) (all_nil) (es := header_Put_es) Go.Proofs.Tryd.func85 (by kernel_rfl) rfl (all_nil) rfl header_Put_den

/-! ### math/bits.TrailingZeros32 -/
def math_bits_TrailingZeros32_rc (c : Int) (a0 : Int) : Option (Int × Unit) :=
  bif a0 == 0 then
    some (32, ())
  else
  bif decide (0 ≤ (shiftI false .u32 (wu32 ((bitsI .and .u32 a0 (wu32 (0 - a0))) * c)) 27)) then
    bif decide ((shiftI false .u32 (wu32 ((bitsI .and .u32 a0 (wu32 (0 - a0))) * c)) 27) < 32) then
      some (wi64 (([0, 1, 28, 2, 29, 14, 24, 3, 30, 22, 20, 15, 25, 17, 4, 8, 31, 27, 13, 23, 21, 19, 16, 7, 26, 12, 18, 6, 11, 5, 10, 9] : List Int).getD (shiftI false .u32 (wu32 ((bitsI .and .u32 a0 (wu32 (0 - a0))) * c)) 27).toNat 0), ())
    else none
  else none
def math_bits_TrailingZeros32_r (a0 : Int) : Option (Int × Unit) := math_bits_TrailingZeros32_rc 125613361 a0
def math_bits_TrailingZeros32 (x : Int × Unit) : Option (Int × Unit) := math_bits_TrailingZeros32_r x.1
noncomputable def math_bits_TrailingZeros32_sm : Sum := ⟨(.cons (.int .u32) .nil), (.cons (.d cI) .nil), math_bits_TrailingZeros32⟩
noncomputable def math_bits_TrailingZeros32_S : List (Nat × Sum) := []
noncomputable def math_bits_TrailingZeros32_fl : List (Nat × Func) := []
noncomputable def math_bits_TrailingZeros32_es : List AE := []
theorem math_bits_TrailingZeros32_denc (c : Int) : (fun x => denFun TEv (look1 math_bits_TrailingZeros32_S) (look1 math_bits_TrailingZeros32_fl) (annOf math_bits_TrailingZeros32_es) 8 172 (putF 125613361 c Go.Proofs.Tryd.f172) math_bits_TrailingZeros32_sm.a math_bits_TrailingZeros32_sm.r x) = fun x => math_bits_TrailingZeros32_rc c x.1 := by kernel_rfl
theorem math_bits_TrailingZeros32_put : putF 125613361 125613361 Go.Proofs.Tryd.f172 = Go.Proofs.Tryd.f172 := by kernel_rfl
theorem math_bits_TrailingZeros32_den : (fun x => denFun TEv (look1 math_bits_TrailingZeros32_S) (look1 math_bits_TrailingZeros32_fl) (annOf math_bits_TrailingZeros32_es) 8 172 Go.Proofs.Tryd.f172 math_bits_TrailingZeros32_sm.a math_bits_TrailingZeros32_sm.r x) = math_bits_TrailingZeros32_sm.F := by
  have h := math_bits_TrailingZeros32_denc 125613361
  rw [math_bits_TrailingZeros32_put] at h
  exact h
theorem math_bits_TrailingZeros32_sem : SemOf Go.Proofs.Tryd.prog 172 math_bits_TrailingZeros32_sm :=
  semMk teOk (sl := math_bits_TrailingZeros32_S) (all_nil) (fl := math_bits_TrailingZeros32_fl) (all_nil) (es := math_bits_TrailingZeros32_es) Go.Proofs.Tryd.func172 (by kernel_rfl) rfl (all_nil) rfl math_bits_TrailingZeros32_den

/-! ### flotsam/bits.Least -/
def bits_Least_r (a0 : Int) : Option (Int × Bool × Unit) :=
  bif a0 == 0 then
    some (0, false, ())
  else
  (math_bits_TrailingZeros32 (a0, ())).bind fun y1 =>
  some (y1.1, true, ())
def bits_Least (x : Int × Unit) : Option (Int × Bool × Unit) := bits_Least_r x.1
noncomputable def bits_Least_sm : Sum := ⟨(.cons (.int .u32) .nil), (.cons (.d cI) (.cons (.d .bool) .nil)), bits_Least⟩
noncomputable def bits_Least_S : List (Nat × Sum) := [(172, math_bits_TrailingZeros32_sm)]
noncomputable def bits_Least_fl : List (Nat × Func) := []
noncomputable def bits_Least_es : List AE := []
theorem bits_Least_den : (fun x => denFun TEv (look1 bits_Least_S) (look1 bits_Least_fl) (annOf bits_Least_es) 8 158 Go.Proofs.Tryd.f158 bits_Least_sm.a bits_Least_sm.r x) = bits_Least_sm.F := by kernel_rfl
theorem bits_Least_sem : SemOf Go.Proofs.Tryd.prog 158 bits_Least_sm :=
  semMk teOk (sl := bits_Least_S) (all_cons math_bits_TrailingZeros32_sem all_nil) (fl := bits_Least_fl) (all_nil) (es := bits_Least_es) Go.Proofs.Tryd.func158 (by kernel_rfl) rfl (all_nil) rfl bits_Least_den

/-! ### flotsam/bits.Without -/
def bits_Without_r (a0 : Int) (a1 : Int) : Option (Int × Unit) :=
  (bits_one (a1, ())).bind fun y1 =>
  some (bitsI .andNot .u32 a0 y1.1, ())
def bits_Without (x : Int × Int × Unit) : Option (Int × Unit) := bits_Without_r x.1 x.2.1
noncomputable def bits_Without_sm : Sum := ⟨(.cons (.int .u32) (.cons cI .nil)), (.cons (.d (.int .u32)) .nil), bits_Without⟩
noncomputable def bits_Without_S : List (Nat × Sum) := [(170, bits_one_sm)]
noncomputable def bits_Without_fl : List (Nat × Func) := []
noncomputable def bits_Without_es : List AE := []
theorem bits_Without_den : (fun x => denFun TEv (look1 bits_Without_S) (look1 bits_Without_fl) (annOf bits_Without_es) 8 159 Go.Proofs.Tryd.f159 bits_Without_sm.a bits_Without_sm.r x) = bits_Without_sm.F := by kernel_rfl
theorem bits_Without_sem : SemOf Go.Proofs.Tryd.prog 159 bits_Without_sm :=
  semMk teOk (sl := bits_Without_S) (all_cons bits_one_sem all_nil) (fl := bits_Without_fl) (all_nil) (es := bits_Without_es) Go.Proofs.Tryd.func159 (by kernel_rfl) rfl (all_nil) rfl bits_Without_den

/-! ### flotsam/span.Take -/
def span_Take_r (a0 : Span) : Option (Span × Int × Bool × Unit) :=
  (bits_Least (a0.2.2.1, ())).bind fun y1 =>
  bif !y1.2.1 then
    some (a0, 0, false, ())
  else
  bif a0.1 != 1 then
    some (a0, 0, false, ())
  else
  (bits_Without (a0.2.2.1, y1.1, ())).bind fun y2 =>
  some ((a0.1, a0.2.1, y2.1, a0.2.2.2), y1.1, true, ())
def span_Take (x : Span × Unit) : Option (Span × Int × Bool × Unit) := span_Take_r x.1
noncomputable def span_Take_sm : Sum := ⟨(.cons cSpan .nil), (.cons (.d cSpan) (.cons (.d cI) (.cons (.d .bool) .nil))), span_Take⟩
noncomputable def span_Take_S : List (Nat × Sum) := [(158, bits_Least_sm), (159, bits_Without_sm)]
noncomputable def span_Take_fl : List (Nat × Func) := []
noncomputable def span_Take_es : List AE := []
theorem span_Take_den : (fun x => denFun TEv (look1 span_Take_S) (look1 span_Take_fl) (annOf span_Take_es) 8 115 Go.Proofs.Tryd.f115 span_Take_sm.a span_Take_sm.r x) = span_Take_sm.F := by kernel_rfl
theorem span_Take_sem : SemOf Go.Proofs.Tryd.prog 115 span_Take_sm :=
  semMk teOk (sl := span_Take_S) (all_cons bits_Least_sem (all_cons bits_Without_sem all_nil)) (fl := span_Take_fl) (all_nil) (es := span_Take_es) Go.Proofs.Tryd.func115 (by kernel_rfl) rfl (all_nil) rfl span_Take_den

/-! ### flotsam/class.Fields -/
def class_Fields_r (a0 : Int) : Option (Int × Unit) :=
  (class_is (a0, ())).bind fun y1 =>
  bif !y1.1 then
    some (0, ())
  else
  bif decide (0 ≤ a0) then
    bif decide (a0 < 4) then
      some (wi64 ((([2, 4, 8, 16] : List Int).getD a0.toNat 0) - 1), ())
    else none
  else none
def class_Fields (x : Int × Unit) : Option (Int × Unit) := class_Fields_r x.1
noncomputable def class_Fields_sm : Sum := ⟨(.cons cI .nil), (.cons (.d cI) .nil), class_Fields⟩
noncomputable def class_Fields_S : List (Nat × Sum) := [(152, class_is_sm)]
noncomputable def class_Fields_fl : List (Nat × Func) := []
noncomputable def class_Fields_es : List AE := []
theorem class_Fields_den : (fun x => denFun TEv (look1 class_Fields_S) (look1 class_Fields_fl) (annOf class_Fields_es) 8 116 Go.Proofs.Tryd.f116 class_Fields_sm.a class_Fields_sm.r x) = class_Fields_sm.F := by kernel_rfl
theorem class_Fields_sem : SemOf Go.Proofs.Tryd.prog 116 class_Fields_sm :=
  semMk teOk (sl := class_Fields_S) (all_cons class_is_sem all_nil) (fl := class_Fields_fl) (all_nil) (es := class_Fields_es) Go.Proofs.Tryd.func116 (by kernel_rfl) rfl (all_nil) rfl class_Fields_den
end Go.Proofs.YtdfhopakojmjkaaDoor.Dfk
