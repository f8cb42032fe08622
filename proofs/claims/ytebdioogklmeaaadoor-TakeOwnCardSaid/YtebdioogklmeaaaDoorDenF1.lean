/- What functions come to. Printed by a program of this session. -/
import Derived.Test.YtebdioogklmeaaaDoorDenF0
namespace Go.Proofs.YtebdioogklmeaaaDoor.Den
open Go
set_option maxRecDepth 100000
set_option linter.unusedVariables false
/-! ### flotsam/class.Of -/
def class_Of_s0r (v0 : Int) (v6 : List Int) (v7 : Int) : Option (SRes (.cons cI (.cons (.arr 4 cI) (.cons cI .nil))) .nil (.cons cI (.cons .bool .nil))) :=
  bif decide (v7 < 4) then
    bif decide (0 ≤ v7) then
      bif decide (v7 < 4) then
        bif decide (v0 ≥ 0) then
          bif decide (v0 < (v6.getD v7.toNat 0)) then
            some (.fin (.ret (v7, true, ())))
          else
          some (.next (v0, v6, wi64 (v7 + 1), ()))
        else
        some (.next (v0, v6, wi64 (v7 + 1), ()))
      else none
    else none
  else
  some (.fin (.out ()))
def class_Of_s0 (x : Int × (List Int) × Int × Unit) : Option (SRes (.cons cI (.cons (.arr 4 cI) (.cons cI .nil))) .nil (.cons cI (.cons .bool .nil))) := class_Of_s0r x.1 x.2.1 x.2.2.1
def class_Of_l0 (x : Int × (List Int) × Int × Unit) : Option (LRes .nil (.cons cI (.cons .bool .nil))) := iterL (h := (.cons cI (.cons (.arr 4 cI) (.cons cI .nil)))) (o := .nil) (r := (.cons cI (.cons .bool .nil))) class_Of_s0 9223372036854775808 x
def class_Of_r (a0 : Int) : Option (Int × Bool × Unit) :=
  (class_Of_l0 (a0, ([2, 4, 8, 16] : List Int), 0, ())).bind fun s1 => match s1 with
  | .out s1 =>
    some (0, false, ())
  | .ret s1 =>
    some (s1.1, s1.2.1, ())
def class_Of (x : Int × Unit) : Option (Int × Bool × Unit) := class_Of_r x.1
noncomputable def class_Of_sm : Sum := ⟨(.cons cI .nil), (.cons (.d cI) (.cons (.d .bool) .nil)), class_Of⟩
noncomputable def class_Of_L0 : LoopSum := { hc := ⟨[], [0, 6, 7], [], [], [], [], 64⟩, h := ⟨[(0, (.d cI)), (6, (.d (.arr 4 cI))), (7, (.d cI))], [], [], 64⟩, xid := 0, oc := ⟨[], [], [], [], [], [], 64⟩, o := ⟨[], [], [], 64⟩, rc := ⟨[], [2, 3], [], [], [], [], 64⟩, r := ⟨[(2, (.d cI)), (3, (.d .bool))], [], [], 64⟩, F := class_Of_l0 }
noncomputable def class_Of_S : List (Nat × Sum) := []
noncomputable def class_Of_fl : List (Nat × Func) := []
noncomputable def class_Of_es : List AE := [⟨8, 34, 0, 0, class_Of_L0⟩]
theorem class_Of_den0 : (fun x => denStep TEv (look1 class_Of_S) (look1 class_Of_fl) (annOf class_Of_es) 8 34 Go.Proofs.Tryd.f34.ntmps 0 (cat (bodyOf Go.Proofs.Tryd.f34) [true, false, true, false, false]) class_Of_L0 x) = class_Of_s0 := by kernel_rfl
theorem class_Of_den : (fun x => denFun TEv (look1 class_Of_S) (look1 class_Of_fl) (annOf class_Of_es) 8 34 Go.Proofs.Tryd.f34 class_Of_sm.a class_Of_sm.r x) = class_Of_sm.F := by kernel_rfl
theorem class_Of_ok0 : AEok Go.Proofs.Tryd.prog TEv (look1 class_Of_S) (look1 class_Of_fl) (annOf class_Of_es) ⟨8, 34, 0, 0, class_Of_L0⟩ := aeok_of 9223372036854775808 Go.Proofs.Tryd.func34 (by kernel_rfl) class_Of_den0 (by kernel_rfl)
theorem class_Of_sem : SemOf Go.Proofs.Tryd.prog 34 class_Of_sm :=
  semMk teOk (sl := class_Of_S) (all_nil) (fl := class_Of_fl) (all_nil) (es := class_Of_es) Go.Proofs.Tryd.func34 (by kernel_rfl) rfl (all_cons class_Of_ok0 (all_nil)) rfl class_Of_den

/-! ### flotsam/heap.page -/
def heap_page_r (a0 : Heap) (a1 : Int) : Option (Span × Bool × Unit) :=
  bif decide (a1 < 0) then
    some ((0, 0, 0, ()), false, ())
  else
  bif decide (a1 ≥ (a0.2.1.length : Int)) then
    some ((0, 0, 0, ()), false, ())
  else
  bif decide (0 ≤ a1) then
    bif decide (a1 < (a0.2.1.length : Int)) then
      some (a0.2.1.getD a1.toNat (0, 0, 0, ()), true, ())
    else none
  else none
def heap_page (x : Heap × Int × Unit) : Option (Span × Bool × Unit) := heap_page_r x.1 x.2.1
noncomputable def heap_page_sm : Sum := ⟨(.cons cHeap (.cons cI .nil)), (.cons (.d cSpan) (.cons (.d .bool) .nil)), heap_page⟩
noncomputable def heap_page_S : List (Nat × Sum) := []
noncomputable def heap_page_fl : List (Nat × Func) := []
noncomputable def heap_page_es : List AE := []
theorem heap_page_den : (fun x => denFun TEv (look1 heap_page_S) (look1 heap_page_fl) (annOf heap_page_es) 8 77 Go.Proofs.Tryd.f77 heap_page_sm.a heap_page_sm.r x) = heap_page_sm.F := by kernel_rfl
theorem heap_page_sem : SemOf Go.Proofs.Tryd.prog 77 heap_page_sm :=
  semMk teOk (sl := heap_page_S) (all_nil) (fl := heap_page_fl) (all_nil) (es := heap_page_es) Go.Proofs.Tryd.func77 (by kernel_rfl) rfl (all_nil) rfl heap_page_den

/-! ### flotsam/class.is -/
def class_is_r (a0 : Int) : Option (Bool × Unit) :=
  bif decide (a0 ≥ 0) then
    some (decide (a0 < 4), ())
  else
  some (false, ())
def class_is (x : Int × Unit) : Option (Bool × Unit) := class_is_r x.1
noncomputable def class_is_sm : Sum := ⟨(.cons cI .nil), (.cons (.d .bool) .nil), class_is⟩
noncomputable def class_is_S : List (Nat × Sum) := []
noncomputable def class_is_fl : List (Nat × Func) := []
noncomputable def class_is_es : List AE := []
theorem class_is_den : (fun x => denFun TEv (look1 class_is_S) (look1 class_is_fl) (annOf class_is_es) 8 84 Go.Proofs.Tryd.f84 class_is_sm.a class_is_sm.r x) = class_is_sm.F := by kernel_rfl
theorem class_is_sem : SemOf Go.Proofs.Tryd.prog 84 class_is_sm :=
  semMk teOk (sl := class_is_S) (all_nil) (fl := class_is_fl) (all_nil) (es := class_is_es) Go.Proofs.Tryd.func84 (by kernel_rfl) rfl (all_nil) rfl class_is_den

/-! ### flotsam/class.Blocks -/
def class_Blocks_r (a0 : Int) : Option (Int × Unit) :=
  (class_is (a0, ())).bind fun y1 =>
  bif !y1.1 then
    some (0, ())
  else
  bif decide (0 ≤ a0) then
    bif decide (a0 < 4) then
      bif (([2, 4, 8, 16] : List Int).getD a0.toNat 0) == 0 then none else
      some (wi64 ((32 : Int).tdiv (([2, 4, 8, 16] : List Int).getD a0.toNat 0)), ())
    else none
  else none
def class_Blocks (x : Int × Unit) : Option (Int × Unit) := class_Blocks_r x.1
noncomputable def class_Blocks_sm : Sum := ⟨(.cons cI .nil), (.cons (.d cI) .nil), class_Blocks⟩
noncomputable def class_Blocks_S : List (Nat × Sum) := [(84, class_is_sm)]
noncomputable def class_Blocks_fl : List (Nat × Func) := []
noncomputable def class_Blocks_es : List AE := []
theorem class_Blocks_den : (fun x => denFun TEv (look1 class_Blocks_S) (look1 class_Blocks_fl) (annOf class_Blocks_es) 8 80 Go.Proofs.Tryd.f80 class_Blocks_sm.a class_Blocks_sm.r x) = class_Blocks_sm.F := by kernel_rfl
theorem class_Blocks_sem : SemOf Go.Proofs.Tryd.prog 80 class_Blocks_sm :=
  semMk teOk (sl := class_Blocks_S) (all_cons class_is_sem all_nil) (fl := class_Blocks_fl) (all_nil) (es := class_Blocks_es) Go.Proofs.Tryd.func80 (by kernel_rfl) rfl (all_nil) rfl class_Blocks_den

/-! ### flotsam/bits.one -/
def bits_one_r (a0 : Int) : Option (Int × Unit) :=
  bif decide (a0 < 0) then
    some (0, ())
  else
  bif decide (a0 ≥ 32) then
    some (0, ())
  else
  bif decide (a0 < 0) then none else
  some (shiftI true .u32 1 a0, ())
def bits_one (x : Int × Unit) : Option (Int × Unit) := bits_one_r x.1
noncomputable def bits_one_sm : Sum := ⟨(.cons cI .nil), (.cons (.d (.int .u32)) .nil), bits_one⟩
noncomputable def bits_one_S : List (Nat × Sum) := []
noncomputable def bits_one_fl : List (Nat × Func) := []
noncomputable def bits_one_es : List AE := []
theorem bits_one_den : (fun x => denFun TEv (look1 bits_one_S) (look1 bits_one_fl) (annOf bits_one_es) 8 93 Go.Proofs.Tryd.f93 bits_one_sm.a bits_one_sm.r x) = bits_one_sm.F := by kernel_rfl
theorem bits_one_sem : SemOf Go.Proofs.Tryd.prog 93 bits_one_sm :=
  semMk teOk (sl := bits_one_S) (all_nil) (fl := bits_one_fl) (all_nil) (es := bits_one_es) Go.Proofs.Tryd.func93 (by kernel_rfl) rfl (all_nil) rfl bits_one_den

/-! ### flotsam/bits.Whole -/
def bits_Whole_r (a0 : Int) : Option (Int × Unit) :=
  bif decide (a0 ≥ 32) then
    some (4294967295, ())
  else
  (bits_one (bif decide (a0 < 0) then 0 else a0, ())).bind fun y1 =>
  some (wu32 (y1.1 - 1), ())
def bits_Whole (x : Int × Unit) : Option (Int × Unit) := bits_Whole_r x.1
noncomputable def bits_Whole_sm : Sum := ⟨(.cons cI .nil), (.cons (.d (.int .u32)) .nil), bits_Whole⟩
noncomputable def bits_Whole_S : List (Nat × Sum) := [(93, bits_one_sm)]
noncomputable def bits_Whole_fl : List (Nat × Func) := []
noncomputable def bits_Whole_es : List AE := []
theorem bits_Whole_den : (fun x => denFun TEv (look1 bits_Whole_S) (look1 bits_Whole_fl) (annOf bits_Whole_es) 8 91 Go.Proofs.Tryd.f91 bits_Whole_sm.a bits_Whole_sm.r x) = bits_Whole_sm.F := by kernel_rfl
theorem bits_Whole_sem : SemOf Go.Proofs.Tryd.prog 91 bits_Whole_sm :=
  semMk teOk (sl := bits_Whole_S) (all_cons bits_one_sem all_nil) (fl := bits_Whole_fl) (all_nil) (es := bits_Whole_es) Go.Proofs.Tryd.func91 (by kernel_rfl) rfl (all_nil) rfl bits_Whole_den

/-! ### flotsam/span.whole -/
def span_whole_r (a0 : Int) : Option (Int × Unit) :=
  (class_Blocks (a0, ())).bind fun y1 =>
  (bits_Whole (y1.1, ())).bind fun y2 =>
  some (y2.1, ())
def span_whole (x : Int × Unit) : Option (Int × Unit) := span_whole_r x.1
noncomputable def span_whole_sm : Sum := ⟨(.cons cI .nil), (.cons (.d (.int .u32)) .nil), span_whole⟩
noncomputable def span_whole_S : List (Nat × Sum) := [(80, class_Blocks_sm), (91, bits_Whole_sm)]
noncomputable def span_whole_fl : List (Nat × Func) := []
noncomputable def span_whole_es : List AE := []
theorem span_whole_den : (fun x => denFun TEv (look1 span_whole_S) (look1 span_whole_fl) (annOf span_whole_es) 8 81 Go.Proofs.Tryd.f81 span_whole_sm.a span_whole_sm.r x) = span_whole_sm.F := by kernel_rfl
theorem span_whole_sem : SemOf Go.Proofs.Tryd.prog 81 span_whole_sm :=
  semMk teOk (sl := span_whole_S) (all_cons class_Blocks_sem (all_cons bits_Whole_sem all_nil)) (fl := span_whole_fl) (all_nil) (es := span_whole_es) Go.Proofs.Tryd.func81 (by kernel_rfl) rfl (all_nil) rfl span_whole_den

/-! ### flotsam/span.New -/
def span_New_r (a0 : Int) : Option (Span × Bool × Unit) :=
  (class_Blocks (a0, ())).bind fun y1 =>
  bif y1.1 == 0 then
    some ((0, 0, 0, ()), false, ())
  else
  (span_whole (a0, ())).bind fun y2 =>
  some ((1, a0, y2.1, ()), true, ())
def span_New (x : Int × Unit) : Option (Span × Bool × Unit) := span_New_r x.1
noncomputable def span_New_sm : Sum := ⟨(.cons cI .nil), (.cons (.cons (.d cI) (.cons (.d cI) (.cons (.d (.int .u32)) .nil))) (.cons (.d .bool) .nil)), span_New⟩
noncomputable def span_New_S : List (Nat × Sum) := [(80, class_Blocks_sm), (81, span_whole_sm)]
noncomputable def span_New_fl : List (Nat × Func) := []
noncomputable def span_New_es : List AE := []
theorem span_New_den : (fun x => denFun TEv (look1 span_New_S) (look1 span_New_fl) (annOf span_New_es) 8 58 Go.Proofs.Tryd.f58 span_New_sm.a span_New_sm.r x) = span_New_sm.F := by kernel_rfl
theorem span_New_sem : SemOf Go.Proofs.Tryd.prog 58 span_New_sm :=
  semMk teOk (sl := span_New_S) (all_cons class_Blocks_sem (all_cons span_whole_sem all_nil)) (fl := span_New_fl) (all_nil) (es := span_New_es) Go.Proofs.Tryd.func58 (by kernel_rfl) rfl (all_nil) rfl span_New_den

/-! ### flotsam/heap.Open -/
def heap_Open_r (a0 : Heap) (a1 : Int) (a2 : Int) : Option (Heap × Bool × Unit) :=
  (heap_page (a0, a1, ())).bind fun y1 =>
  bif !y1.2.1 then
    some (a0, false, ())
  else
  (span_New (a2, ())).bind fun y2 =>
  bif y2.2.1 then
    bif !(y1.1.1 == 0) then
      some (a0, false, ())
    else
    (slices_Clone_uint64 (a0.1, ())).bind fun y3 =>
    (slices_Clone_api_Span (a0.2.1, ())).bind fun y4 =>
    bif decide (0 ≤ a1) then
      bif decide (a1 < (y4.1.length : Int)) then
        some ((y3.1, y4.1.set a1.toNat (y2.1.1, y2.1.2.1, y2.1.2.2.1, ()), a0.2.2), true, ())
      else none
    else none
  else
  some (a0, false, ())
def heap_Open (x : Heap × Int × Int × Unit) : Option (Heap × Bool × Unit) := heap_Open_r x.1 x.2.1 x.2.2.1
noncomputable def heap_Open_sm : Sum := ⟨(.cons cHeap (.cons cI (.cons cI .nil))), (.cons (.d cHeap) (.cons (.d .bool) .nil)), heap_Open⟩
noncomputable def heap_Open_S : List (Nat × Sum) := [(58, span_New_sm), (77, heap_page_sm), (78, slices_Clone_uint64_sm), (79, slices_Clone_api_Span_sm)]
noncomputable def heap_Open_fl : List (Nat × Func) := [(56, Go.Proofs.Tryd.f56), (57, Go.Proofs.Tryd.f57)]
noncomputable def heap_Open_es : List AE := []
theorem heap_Open_den : (fun x => denFun TEv (look1 heap_Open_S) (look1 heap_Open_fl) (annOf heap_Open_es) 8 35 Go.Proofs.Tryd.f35 heap_Open_sm.a heap_Open_sm.r x) = heap_Open_sm.F := by kernel_rfl
theorem heap_Open_sem : SemOf Go.Proofs.Tryd.prog 35 heap_Open_sm :=
  semMk teOk (sl := heap_Open_S) (all_cons span_New_sem (all_cons heap_page_sem (all_cons slices_Clone_uint64_sem (all_cons slices_Clone_api_Span_sem all_nil)))) (fl := heap_Open_fl) (all_cons ⟨Go.Proofs.Tryd.func56, by kernel_rfl⟩ (all_cons ⟨Go.Proofs.Tryd.func57, by kernel_rfl⟩ (all_nil))) (es := heap_Open_es) Go.Proofs.Tryd.func35 (by kernel_rfl) rfl (all_nil) rfl heap_Open_den

/-! ### math/bits.TrailingZeros32 -/
def math_bits_TrailingZeros32_rc (c : Int) (a0 : Int) : Option (Int × Unit) :=
  bif a0 == 0 then
    some (32, ())
  else
  bif decide (0 ≤ (shiftI false .u32 (wu32 ((bitsI .and .u32 a0 (wu32 (0 - a0))) * c)) 27)) then
    bif decide ((shiftI false .u32 (wu32 ((bitsI .and .u32 a0 (wu32 (0 - a0))) * c)) 27) < 32) then
      some (wi64 (([0, 1, 28, 2, 29, 14, 24, 3, 30, 22, 20, 15, 25, 17, 4, 8, 31, 27, 13, 23, 21, 19, 16, 7, 26, 12, 18, 6, 11, 5, 10, 9] : List Int).getD (shiftI false .u32 (wu32 ((bitsI .and .u32 a0 (wu32 (0 - a0))) * c)) 27).toNat 0), ())
    else none
  else none
def math_bits_TrailingZeros32_r (a0 : Int) : Option (Int × Unit) := math_bits_TrailingZeros32_rc 125613361 a0
def math_bits_TrailingZeros32 (x : Int × Unit) : Option (Int × Unit) := math_bits_TrailingZeros32_r x.1
noncomputable def math_bits_TrailingZeros32_sm : Sum := ⟨(.cons (.int .u32) .nil), (.cons (.d cI) .nil), math_bits_TrailingZeros32⟩
noncomputable def math_bits_TrailingZeros32_S : List (Nat × Sum) := []
noncomputable def math_bits_TrailingZeros32_fl : List (Nat × Func) := []
noncomputable def math_bits_TrailingZeros32_es : List AE := []
theorem math_bits_TrailingZeros32_denc (c : Int) : (fun x => denFun TEv (look1 math_bits_TrailingZeros32_S) (look1 math_bits_TrailingZeros32_fl) (annOf math_bits_TrailingZeros32_es) 8 92 (putF 125613361 c Go.Proofs.Tryd.f92) math_bits_TrailingZeros32_sm.a math_bits_TrailingZeros32_sm.r x) = fun x => math_bits_TrailingZeros32_rc c x.1 := by kernel_rfl
theorem math_bits_TrailingZeros32_put : putF 125613361 125613361 Go.Proofs.Tryd.f92 = Go.Proofs.Tryd.f92 := by kernel_rfl
theorem math_bits_TrailingZeros32_den : (fun x => denFun TEv (look1 math_bits_TrailingZeros32_S) (look1 math_bits_TrailingZeros32_fl) (annOf math_bits_TrailingZeros32_es) 8 92 Go.Proofs.Tryd.f92 math_bits_TrailingZeros32_sm.a math_bits_TrailingZeros32_sm.r x) = math_bits_TrailingZeros32_sm.F := by
  have h := math_bits_TrailingZeros32_denc 125613361
  rw [math_bits_TrailingZeros32_put] at h
  exact h
theorem math_bits_TrailingZeros32_sem : SemOf Go.Proofs.Tryd.prog 92 math_bits_TrailingZeros32_sm :=
  semMk teOk (sl := math_bits_TrailingZeros32_S) (all_nil) (fl := math_bits_TrailingZeros32_fl) (all_nil) (es := math_bits_TrailingZeros32_es) Go.Proofs.Tryd.func92 (by kernel_rfl) rfl (all_nil) rfl math_bits_TrailingZeros32_den

/-! ### flotsam/bits.Least -/
def bits_Least_r (a0 : Int) : Option (Int × Bool × Unit) :=
  bif a0 == 0 then
    some (0, false, ())
  else
  (math_bits_TrailingZeros32 (a0, ())).bind fun y1 =>
  some (y1.1, true, ())
def bits_Least (x : Int × Unit) : Option (Int × Bool × Unit) := bits_Least_r x.1
noncomputable def bits_Least_sm : Sum := ⟨(.cons (.int .u32) .nil), (.cons (.d cI) (.cons (.d .bool) .nil)), bits_Least⟩
noncomputable def bits_Least_S : List (Nat × Sum) := [(92, math_bits_TrailingZeros32_sm)]
noncomputable def bits_Least_fl : List (Nat × Func) := []
noncomputable def bits_Least_es : List AE := []
theorem bits_Least_den : (fun x => denFun TEv (look1 bits_Least_S) (look1 bits_Least_fl) (annOf bits_Least_es) 8 82 Go.Proofs.Tryd.f82 bits_Least_sm.a bits_Least_sm.r x) = bits_Least_sm.F := by kernel_rfl
theorem bits_Least_sem : SemOf Go.Proofs.Tryd.prog 82 bits_Least_sm :=
  semMk teOk (sl := bits_Least_S) (all_cons math_bits_TrailingZeros32_sem all_nil) (fl := bits_Least_fl) (all_nil) (es := bits_Least_es) Go.Proofs.Tryd.func82 (by kernel_rfl) rfl (all_nil) rfl bits_Least_den

/-! ### flotsam/bits.Without -/
def bits_Without_r (a0 : Int) (a1 : Int) : Option (Int × Unit) :=
  (bits_one (a1, ())).bind fun y1 =>
  some (bitsI .andNot .u32 a0 y1.1, ())
def bits_Without (x : Int × Int × Unit) : Option (Int × Unit) := bits_Without_r x.1 x.2.1
noncomputable def bits_Without_sm : Sum := ⟨(.cons (.int .u32) (.cons cI .nil)), (.cons (.d (.int .u32)) .nil), bits_Without⟩
noncomputable def bits_Without_S : List (Nat × Sum) := [(93, bits_one_sm)]
noncomputable def bits_Without_fl : List (Nat × Func) := []
noncomputable def bits_Without_es : List AE := []
theorem bits_Without_den : (fun x => denFun TEv (look1 bits_Without_S) (look1 bits_Without_fl) (annOf bits_Without_es) 8 83 Go.Proofs.Tryd.f83 bits_Without_sm.a bits_Without_sm.r x) = bits_Without_sm.F := by kernel_rfl
theorem bits_Without_sem : SemOf Go.Proofs.Tryd.prog 83 bits_Without_sm :=
  semMk teOk (sl := bits_Without_S) (all_cons bits_one_sem all_nil) (fl := bits_Without_fl) (all_nil) (es := bits_Without_es) Go.Proofs.Tryd.func83 (by kernel_rfl) rfl (all_nil) rfl bits_Without_den

/-! ### flotsam/span.Take -/
def span_Take_r (a0 : Span) : Option (Span × Int × Bool × Unit) :=
  (bits_Least (a0.2.2.1, ())).bind fun y1 =>
  bif !y1.2.1 then
    some (a0, 0, false, ())
  else
  bif a0.1 != 1 then
    some (a0, 0, false, ())
  else
  (bits_Without (a0.2.2.1, y1.1, ())).bind fun y2 =>
  some ((a0.1, a0.2.1, y2.1, a0.2.2.2), y1.1, true, ())
def span_Take (x : Span × Unit) : Option (Span × Int × Bool × Unit) := span_Take_r x.1
noncomputable def span_Take_sm : Sum := ⟨(.cons cSpan .nil), (.cons (.d cSpan) (.cons (.d cI) (.cons (.d .bool) .nil))), span_Take⟩
noncomputable def span_Take_S : List (Nat × Sum) := [(82, bits_Least_sm), (83, bits_Without_sm)]
noncomputable def span_Take_fl : List (Nat × Func) := []
noncomputable def span_Take_es : List AE := []
theorem span_Take_den : (fun x => denFun TEv (look1 span_Take_S) (look1 span_Take_fl) (annOf span_Take_es) 8 60 Go.Proofs.Tryd.f60 span_Take_sm.a span_Take_sm.r x) = span_Take_sm.F := by kernel_rfl
theorem span_Take_sem : SemOf Go.Proofs.Tryd.prog 60 span_Take_sm :=
  semMk teOk (sl := span_Take_S) (all_cons bits_Least_sem (all_cons bits_Without_sem all_nil)) (fl := span_Take_fl) (all_nil) (es := span_Take_es) Go.Proofs.Tryd.func60 (by kernel_rfl) rfl (all_nil) rfl span_Take_den

/-! ### flotsam/class.Fields -/
def class_Fields_r (a0 : Int) : Option (Int × Unit) :=
  (class_is (a0, ())).bind fun y1 =>
  bif !y1.1 then
    some (0, ())
  else
  bif decide (0 ≤ a0) then
    bif decide (a0 < 4) then
      some (wi64 ((([2, 4, 8, 16] : List Int).getD a0.toNat 0) - 1), ())
    else none
  else none
def class_Fields (x : Int × Unit) : Option (Int × Unit) := class_Fields_r x.1
noncomputable def class_Fields_sm : Sum := ⟨(.cons cI .nil), (.cons (.d cI) .nil), class_Fields⟩
noncomputable def class_Fields_S : List (Nat × Sum) := [(84, class_is_sm)]
noncomputable def class_Fields_fl : List (Nat × Func) := []
noncomputable def class_Fields_es : List AE := []
theorem class_Fields_den : (fun x => denFun TEv (look1 class_Fields_S) (look1 class_Fields_fl) (annOf class_Fields_es) 8 61 Go.Proofs.Tryd.f61 class_Fields_sm.a class_Fields_sm.r x) = class_Fields_sm.F := by kernel_rfl
theorem class_Fields_sem : SemOf Go.Proofs.Tryd.prog 61 class_Fields_sm :=
  semMk teOk (sl := class_Fields_S) (all_cons class_is_sem all_nil) (fl := class_Fields_fl) (all_nil) (es := class_Fields_es) Go.Proofs.Tryd.func61 (by kernel_rfl) rfl (all_nil) rfl class_Fields_den

/-! ### flotsam/class.Words -/
def class_Words_r (a0 : Int) : Option (Int × Unit) :=
  (class_is (a0, ())).bind fun y1 =>
  bif !y1.1 then
    some (0, ())
  else
  bif decide (0 ≤ a0) then
    bif decide (a0 < 4) then
      some (([2, 4, 8, 16] : List Int).getD a0.toNat 0, ())
    else none
  else none
def class_Words (x : Int × Unit) : Option (Int × Unit) := class_Words_r x.1
noncomputable def class_Words_sm : Sum := ⟨(.cons cI .nil), (.cons (.d cI) .nil), class_Words⟩
noncomputable def class_Words_S : List (Nat × Sum) := [(84, class_is_sm)]
noncomputable def class_Words_fl : List (Nat × Func) := []
noncomputable def class_Words_es : List AE := []
theorem class_Words_den : (fun x => denFun TEv (look1 class_Words_S) (look1 class_Words_fl) (annOf class_Words_es) 8 64 Go.Proofs.Tryd.f64 class_Words_sm.a class_Words_sm.r x) = class_Words_sm.F := by kernel_rfl
theorem class_Words_sem : SemOf Go.Proofs.Tryd.prog 64 class_Words_sm :=
  semMk teOk (sl := class_Words_S) (all_cons class_is_sem all_nil) (fl := class_Words_fl) (all_nil) (es := class_Words_es) Go.Proofs.Tryd.func64 (by kernel_rfl) rfl (all_nil) rfl class_Words_den

/-! ### flotsam/arena.Address -/
def arena_Address_r (a0 : Int) (a1 : Int) (a2 : Int) : Option (Int × Bool × Unit) :=
  bif decide (a0 < 0) then
    some (0, false, ())
  else
  bif decide (a0 ≥ 16) then
    some (0, false, ())
  else
  bif decide (a2 < 0) then
    some (0, false, ())
  else
  (class_Blocks (a1, ())).bind fun y1 =>
  bif decide (a2 ≥ y1.1) then
    some (0, false, ())
  else
  (class_Words (a1, ())).bind fun y2 =>
  some (wi64 ((wi64 (a0 * 32)) + (wi64 (a2 * y2.1))), true, ())
def arena_Address (x : Int × Int × Int × Unit) : Option (Int × Bool × Unit) := arena_Address_r x.1 x.2.1 x.2.2.1
noncomputable def arena_Address_sm : Sum := ⟨(.cons cI (.cons cI (.cons cI .nil))), (.cons (.d cI) (.cons (.d .bool) .nil)), arena_Address⟩
noncomputable def arena_Address_S : List (Nat × Sum) := [(64, class_Words_sm), (80, class_Blocks_sm)]
noncomputable def arena_Address_fl : List (Nat × Func) := []
noncomputable def arena_Address_es : List AE := []
theorem arena_Address_den : (fun x => denFun TEv (look1 arena_Address_S) (look1 arena_Address_fl) (annOf arena_Address_es) 8 62 Go.Proofs.Tryd.f62 arena_Address_sm.a arena_Address_sm.r x) = arena_Address_sm.F := by kernel_rfl
theorem arena_Address_sem : SemOf Go.Proofs.Tryd.prog 62 arena_Address_sm :=
  semMk teOk (sl := arena_Address_S) (all_cons class_Words_sem (all_cons class_Blocks_sem all_nil)) (fl := arena_Address_fl) (all_nil) (es := arena_Address_es) Go.Proofs.Tryd.func62 (by kernel_rfl) rfl (all_nil) rfl arena_Address_den

/-! ### flotsam/header.May -/
def header_May_r (a0 : Hdr) : Option (Bool × Unit) :=
  bif !a0.1 then
    some ((a0.1 == false) && ((a0.2.1 == false) && ((a0.2.2.1 == 0) && ((a0.2.2.2.1 == 0) && true))), ())
  else
  bif decide (a0.2.2.1 ≥ 0) then
    bif decide (a0.2.2.1 < 4) then
      bif decide (a0.2.2.2.1 ≥ 0) then
        bif decide (a0.2.2.1 < 0) then none else
        some (decide (a0.2.2.2.1 < (shiftI true .i64 2 a0.2.2.1)), ())
      else
      some (false, ())
    else
    some (false, ())
  else
  some (false, ())
def header_May (x : Hdr × Unit) : Option (Bool × Unit) := header_May_r x.1
noncomputable def header_May_sm : Sum := ⟨(.cons cHdr .nil), (.cons (.d .bool) .nil), header_May⟩
noncomputable def header_May_S : List (Nat × Sum) := []
noncomputable def header_May_fl : List (Nat × Func) := []
noncomputable def header_May_es : List AE := []
theorem header_May_den : (fun x => denFun TEv (look1 header_May_S) (look1 header_May_fl) (annOf header_May_es) 8 85 Go.Proofs.Tryd.f85 header_May_sm.a header_May_sm.r x) = header_May_sm.F := by kernel_rfl
theorem header_May_sem : SemOf Go.Proofs.Tryd.prog 85 header_May_sm :=
  semMk teOk (sl := header_May_S) (all_nil) (fl := header_May_fl) (all_nil) (es := header_May_es) Go.Proofs.Tryd.func85 (by kernel_rfl) rfl (all_nil) rfl header_May_den

/-! ### flotsam/header.Put -/
def header_Put_r (a0 : Hdr) : Option (Int × Bool × Unit) :=
  (header_May (a0, ())).bind fun y1 =>
  bif !y1.1 then
    some (0, false, ())
  else
  bif !a0.1 then
    some (0, true, ())
  else
  bif a0.2.1 then
    some (bitsI .or .u64 (wu64 (bitsI .or .i64 (bitsI .or .i64 128 (shiftI true .i64 a0.2.2.1 4)) (shiftI true .i64 a0.2.2.2.1 0))) 64, true, ())
  else
  some (wu64 (bitsI .or .i64 (bitsI .or .i64 128 (shiftI true .i64 a0.2.2.1 4)) (shiftI true .i64 a0.2.2.2.1 0)), true, ())
def header_Put (x : Hdr × Unit) : Option (Int × Bool × Unit) := header_Put_r x.1
noncomputable def header_Put_sm : Sum := ⟨(.cons cHdr .nil), (.cons (.d (.int .u64)) (.cons (.d .bool) .nil)), header_Put⟩
noncomputable def header_Put_S : List (Nat × Sum) := [(85, header_May_sm)]
noncomputable def header_Put_fl : List (Nat × Func) := []
noncomputable def header_Put_es : List AE := []
theorem header_Put_den : (fun x => denFun TEv (look1 header_Put_S) (look1 header_Put_fl) (annOf header_Put_es) 8 63 Go.Proofs.Tryd.f63 header_Put_sm.a header_Put_sm.r x) = header_Put_sm.F := by kernel_rfl
theorem header_Put_sem : SemOf Go.Proofs.Tryd.prog 63 header_Put_sm :=
  semMk teOk (sl := header_Put_S) (all_cons header_May_sem all_nil) (fl := header_Put_fl) (all_nil) (es := header_Put_es) Go.Proofs.Tryd.func63 (by kernel_rfl) rfl (all_nil) rfl header_Put_den

/-! ### flotsam/heap.Lay -/
def heap_Lay_r (a0 : Heap) (a1 : Int) (a2 : Int) : Option (Heap × Int × Bool × Unit) :=
  (heap_page (a0, a1, ())).bind fun y1 =>
  bif !y1.2.1 then
    some (a0, 0, false, ())
  else
  (span_Take (y1.1, ())).bind fun y2 =>
  bif y2.2.2.1 then
    bif decide (a2 ≥ 0) then
      (class_Fields (y1.1.2.1, ())).bind fun y3 =>
      bif !(decide (a2 ≤ y3.1)) then
        some (a0, 0, false, ())
      else
      (slices_Clone_uint64 (a0.1, ())).bind fun y4 =>
      (slices_Clone_api_Span (a0.2.1, ())).bind fun y5 =>
      bif decide (0 ≤ a1) then
        bif decide (a1 < (y5.1.length : Int)) then
          bif decide (0 ≤ a1) then
            bif decide (a1 < ((y5.1.set a1.toNat y2.1).length : Int)) then
              (arena_Address (a1, ((y5.1.set a1.toNat y2.1).getD a1.toNat (0, 0, 0, ())).2.1, y2.2.1, ())).bind fun y6 =>
              (header_Put ((true, a0.2.2.1, ((y5.1.set a1.toNat y2.1).getD a1.toNat (0, 0, 0, ())).2.1, a2, ()), ())).bind fun y7 =>
              (class_Words (((y5.1.set a1.toNat y2.1).getD a1.toNat (0, 0, 0, ())).2.1, ())).bind fun y8 =>
              bif decide (0 ≤ y6.1) then
                bif decide (y6.1 ≤ (wi64 (y6.1 + y8.1))) then
                  bif decide ((wi64 (y6.1 + y8.1)) ≤ (y4.1.length : Int)) then
                    bif decide (0 ≤ y6.1) then
                      bif decide (y6.1 < ((segSet y4.1 y6.1.toNat (List.replicate ((wi64 (y6.1 + y8.1)).toNat - y6.1.toNat) 0)).length : Int)) then
                        some (((segSet y4.1 y6.1.toNat (List.replicate ((wi64 (y6.1 + y8.1)).toNat - y6.1.toNat) 0)).set y6.1.toNat y7.1, y5.1.set a1.toNat y2.1, a0.2.2), y6.1, true, ())
                      else none
                    else none
                  else none
                else none
              else none
            else none
          else none
        else none
      else none
    else
    some (a0, 0, false, ())
  else
  some (a0, 0, false, ())
def heap_Lay (x : Heap × Int × Int × Unit) : Option (Heap × Int × Bool × Unit) := heap_Lay_r x.1 x.2.1 x.2.2.1
noncomputable def heap_Lay_sm : Sum := ⟨(.cons cHeap (.cons cI (.cons cI .nil))), (.cons (.d cHeap) (.cons (.d cI) (.cons (.d .bool) .nil))), heap_Lay⟩
noncomputable def heap_Lay_S : List (Nat × Sum) := [(60, span_Take_sm), (61, class_Fields_sm), (62, arena_Address_sm), (63, header_Put_sm), (64, class_Words_sm), (77, heap_page_sm), (78, slices_Clone_uint64_sm), (79, slices_Clone_api_Span_sm)]
noncomputable def heap_Lay_fl : List (Nat × Func) := [(56, Go.Proofs.Tryd.f56), (59, Go.Proofs.Tryd.f59)]
noncomputable def heap_Lay_es : List AE := []
theorem heap_Lay_den : (fun x => denFun TEv (look1 heap_Lay_S) (look1 heap_Lay_fl) (annOf heap_Lay_es) 8 36 Go.Proofs.Tryd.f36 heap_Lay_sm.a heap_Lay_sm.r x) = heap_Lay_sm.F := by kernel_rfl
theorem heap_Lay_sem : SemOf Go.Proofs.Tryd.prog 36 heap_Lay_sm :=
  semMk teOk (sl := heap_Lay_S) (all_cons span_Take_sem (all_cons class_Fields_sem (all_cons arena_Address_sem (all_cons header_Put_sem (all_cons class_Words_sem (all_cons heap_page_sem (all_cons slices_Clone_uint64_sem (all_cons slices_Clone_api_Span_sem all_nil)))))))) (fl := heap_Lay_fl) (all_cons ⟨Go.Proofs.Tryd.func56, by kernel_rfl⟩ (all_cons ⟨Go.Proofs.Tryd.func59, by kernel_rfl⟩ (all_nil))) (es := heap_Lay_es) Go.Proofs.Tryd.func36 (by kernel_rfl) rfl (all_nil) rfl heap_Lay_den

/-! ### flotsam/heap.Lay -/
def heap_Lay_o_r (a0 : Heap) (a1 : Int) (a2 : Int) : Option (Heap × Int × Bool × Unit) :=
  (heap_page (a0, a1, ())).bind fun y1 =>
  bif !y1.2.1 then none else
  (span_Take (y1.1, ())).bind fun y2 =>
  bif y2.2.2.1 then
    bif decide (a2 ≥ 0) then
      (class_Fields (y1.1.2.1, ())).bind fun y3 =>
      bif !(decide (a2 ≤ y3.1)) then none else
      (slices_Clone_uint64 (a0.1, ())).bind fun y4 =>
      (slices_Clone_api_Span (a0.2.1, ())).bind fun y5 =>
      bif decide (0 ≤ a1) then
        bif decide (a1 < (y5.1.length : Int)) then
          bif decide (0 ≤ a1) then
            bif decide (a1 < ((y5.1.set a1.toNat y2.1).length : Int)) then
              (arena_Address (a1, ((y5.1.set a1.toNat y2.1).getD a1.toNat (0, 0, 0, ())).2.1, y2.2.1, ())).bind fun y6 =>
              (header_Put ((true, a0.2.2.1, ((y5.1.set a1.toNat y2.1).getD a1.toNat (0, 0, 0, ())).2.1, a2, ()), ())).bind fun y7 =>
              (class_Words (((y5.1.set a1.toNat y2.1).getD a1.toNat (0, 0, 0, ())).2.1, ())).bind fun y8 =>
              bif decide (0 ≤ y6.1) then
                bif decide (y6.1 ≤ (wi64 (y6.1 + y8.1))) then
                  bif decide ((wi64 (y6.1 + y8.1)) ≤ (y4.1.length : Int)) then
                    bif decide (0 ≤ y6.1) then
                      bif decide (y6.1 < ((segSet y4.1 y6.1.toNat (List.replicate ((wi64 (y6.1 + y8.1)).toNat - y6.1.toNat) 0)).length : Int)) then
                        some (((segSet y4.1 y6.1.toNat (List.replicate ((wi64 (y6.1 + y8.1)).toNat - y6.1.toNat) 0)).set y6.1.toNat y7.1, y5.1.set a1.toNat y2.1, a0.2.2), y6.1, true, ())
                      else none
                    else none
                  else none
                else none
              else none
            else none
          else none
        else none
      else none
    else none
  else none
def heap_Lay_o (x : Heap × Int × Int × Unit) : Option (Heap × Int × Bool × Unit) := heap_Lay_o_r x.1 x.2.1 x.2.2.1
noncomputable def heap_Lay_o_sm : Sum := ⟨(.cons cHeap (.cons cI (.cons cI .nil))), (.cons (.cons (.own (.int .u64)) (.cons (.own cSpan) (.d (.cons .bool .nil)))) (.cons (.d cI) (.cons (.d .bool) .nil))), heap_Lay_o⟩
noncomputable def heap_Lay_o_S : List (Nat × Sum) := [(60, span_Take_sm), (61, class_Fields_sm), (62, arena_Address_sm), (63, header_Put_sm), (64, class_Words_sm), (77, heap_page_sm), (78, slices_Clone_uint64_sm), (79, slices_Clone_api_Span_sm)]
noncomputable def heap_Lay_o_fl : List (Nat × Func) := [(56, Go.Proofs.Tryd.f56), (59, Go.Proofs.Tryd.f59)]
noncomputable def heap_Lay_o_es : List AE := []
theorem heap_Lay_o_den : (fun x => denFun TEv (look1 heap_Lay_o_S) (look1 heap_Lay_o_fl) (annOf heap_Lay_o_es) 8 36 Go.Proofs.Tryd.f36 heap_Lay_o_sm.a heap_Lay_o_sm.r x) = heap_Lay_o_sm.F := by kernel_rfl
theorem heap_Lay_o_sem : SemOf Go.Proofs.Tryd.prog 36 heap_Lay_o_sm :=
  semMk teOk (sl := heap_Lay_o_S) (all_cons span_Take_sem (all_cons class_Fields_sem (all_cons arena_Address_sem (all_cons header_Put_sem (all_cons class_Words_sem (all_cons heap_page_sem (all_cons slices_Clone_uint64_sem (all_cons slices_Clone_api_Span_sem all_nil)))))))) (fl := heap_Lay_o_fl) (all_cons ⟨Go.Proofs.Tryd.func56, by kernel_rfl⟩ (all_cons ⟨Go.Proofs.Tryd.func59, by kernel_rfl⟩ (all_nil))) (es := heap_Lay_o_es) Go.Proofs.Tryd.func36 (by kernel_rfl) rfl (all_nil) rfl heap_Lay_o_den

/-! ### flotsam/take.Take -/
def take_Take_r (a0 : Heap) (a1 : List (List Int)) (a2 : Int) (a3 : Int) : Option (Heap × (List (List Int)) × Int × Bool × Unit) :=
  (class_Of (a3, ())).bind fun y1 =>
  bif !y1.2.1 then
    some (a0, a1, 0, false, ())
  else
  (take_Page (a0, a1, a2, y1.1, ())).bind fun y2 =>
  bif !y2.2.1 then
    some (a0, a1, 0, false, ())
  else
  bif decide (0 ≤ y2.1) then
    bif decide (y2.1 < (a0.2.1.length : Int)) then
      bif (a0.2.1.getD y2.1.toNat (0, 0, 0, ())).1 == 0 then
        (heap_Open (a0, y2.1, y1.1, ())).bind fun y3 =>
        (heap_Lay (y3.1, y2.1, a3, ())).bind fun y4 =>
        (slices_Clone_A4_int (a1, ())).bind fun y5 =>
        bif decide (0 ≤ a2) then
          bif decide (a2 < (y5.1.length : Int)) then
            bif decide (0 ≤ y1.1) then
              bif decide (y1.1 < 4) then
                some (y4.1, y5.1.set a2.toNat ((y5.1.getD a2.toNat (List.replicate 4 0)).set y1.1.toNat y2.1), y4.2.1, true, ())
              else none
            else none
          else none
        else none
      else
      (heap_Lay (a0, y2.1, a3, ())).bind fun y6 =>
      (slices_Clone_A4_int (a1, ())).bind fun y7 =>
      bif decide (0 ≤ a2) then
        bif decide (a2 < (y7.1.length : Int)) then
          bif decide (0 ≤ y1.1) then
            bif decide (y1.1 < 4) then
              some (y6.1, y7.1.set a2.toNat ((y7.1.getD a2.toNat (List.replicate 4 0)).set y1.1.toNat y2.1), y6.2.1, true, ())
            else none
          else none
        else none
      else none
    else none
  else none
def take_Take (x : Heap × (List (List Int)) × Int × Int × Unit) : Option (Heap × (List (List Int)) × Int × Bool × Unit) := take_Take_r x.1 x.2.1 x.2.2.1 x.2.2.2.1
noncomputable def take_Take_sm : Sum := ⟨(.cons cHeap (.cons (.sl (.arr 4 cI)) (.cons cI (.cons cI .nil)))), (.cons (.d cHeap) (.cons (.d (.sl (.arr 4 cI))) (.cons (.d cI) (.cons (.d .bool) .nil)))), take_Take⟩
noncomputable def take_Take_S : List (Nat × Sum) := [(16, take_Page_sm), (34, class_Of_sm), (35, heap_Open_sm), (36, heap_Lay_sm), (37, slices_Clone_A4_int_sm)]
noncomputable def take_Take_fl : List (Nat × Func) := []
noncomputable def take_Take_es : List AE := []
theorem take_Take_den : (fun x => denFun TEv (look1 take_Take_S) (look1 take_Take_fl) (annOf take_Take_es) 8 18 Go.Proofs.Tryd.f18 take_Take_sm.a take_Take_sm.r x) = take_Take_sm.F := by kernel_rfl
theorem take_Take_sem : SemOf Go.Proofs.Tryd.prog 18 take_Take_sm :=
  semMk teOk (sl := take_Take_S) (all_cons take_Page_sem (all_cons class_Of_sem (all_cons heap_Open_sem (all_cons heap_Lay_sem (all_cons slices_Clone_A4_int_sem all_nil))))) (fl := take_Take_fl) (all_nil) (es := take_Take_es) Go.Proofs.Tryd.func18 (by kernel_rfl) rfl (all_nil) rfl take_Take_den

/-! ### flotsam/take.Take -/
def take_Take_o_r (a0 : Heap) (a1 : List (List Int)) (a2 : Int) (a3 : Int) : Option (Heap × (List (List Int)) × Int × Bool × Unit) :=
  (class_Of (a3, ())).bind fun y1 =>
  bif !y1.2.1 then none else
  (take_Page (a0, a1, a2, y1.1, ())).bind fun y2 =>
  bif !y2.2.1 then none else
  bif decide (0 ≤ y2.1) then
    bif decide (y2.1 < (a0.2.1.length : Int)) then
      bif (a0.2.1.getD y2.1.toNat (0, 0, 0, ())).1 == 0 then
        (heap_Open (a0, y2.1, y1.1, ())).bind fun y3 =>
        (heap_Lay_o (y3.1, y2.1, a3, ())).bind fun y4 =>
        (slices_Clone_A4_int (a1, ())).bind fun y5 =>
        bif decide (0 ≤ a2) then
          bif decide (a2 < (y5.1.length : Int)) then
            bif decide (0 ≤ y1.1) then
              bif decide (y1.1 < 4) then
                some ((y4.1.1, y4.1.2.1, y4.1.2.2), y5.1.set a2.toNat ((y5.1.getD a2.toNat (List.replicate 4 0)).set y1.1.toNat y2.1), y4.2.1, true, ())
              else none
            else none
          else none
        else none
      else
      (heap_Lay_o (a0, y2.1, a3, ())).bind fun y6 =>
      (slices_Clone_A4_int (a1, ())).bind fun y7 =>
      bif decide (0 ≤ a2) then
        bif decide (a2 < (y7.1.length : Int)) then
          bif decide (0 ≤ y1.1) then
            bif decide (y1.1 < 4) then
              some ((y6.1.1, y6.1.2.1, y6.1.2.2), y7.1.set a2.toNat ((y7.1.getD a2.toNat (List.replicate 4 0)).set y1.1.toNat y2.1), y6.2.1, true, ())
            else none
          else none
        else none
      else none
    else none
  else none
def take_Take_o (x : Heap × (List (List Int)) × Int × Int × Unit) : Option (Heap × (List (List Int)) × Int × Bool × Unit) := take_Take_o_r x.1 x.2.1 x.2.2.1 x.2.2.2.1
noncomputable def take_Take_o_sm : Sum := ⟨(.cons cHeap (.cons (.sl (.arr 4 cI)) (.cons cI (.cons cI .nil)))), (.cons (.cons (.own (.int .u64)) (.cons (.own cSpan) (.d (.cons .bool .nil)))) (.cons (.own (.arr 4 cI)) (.cons (.d cI) (.cons (.d .bool) .nil)))), take_Take_o⟩
noncomputable def take_Take_o_S : List (Nat × Sum) := [(16, take_Page_sm), (34, class_Of_sm), (35, heap_Open_sm), (36, heap_Lay_o_sm), (37, slices_Clone_A4_int_sm)]
noncomputable def take_Take_o_fl : List (Nat × Func) := []
noncomputable def take_Take_o_es : List AE := []
theorem take_Take_o_den : (fun x => denFun TEv (look1 take_Take_o_S) (look1 take_Take_o_fl) (annOf take_Take_o_es) 8 18 Go.Proofs.Tryd.f18 take_Take_o_sm.a take_Take_o_sm.r x) = take_Take_o_sm.F := by kernel_rfl
theorem take_Take_o_sem : SemOf Go.Proofs.Tryd.prog 18 take_Take_o_sm :=
  semMk teOk (sl := take_Take_o_S) (all_cons take_Page_sem (all_cons class_Of_sem (all_cons heap_Open_sem (all_cons heap_Lay_o_sem (all_cons slices_Clone_A4_int_sem all_nil))))) (fl := take_Take_o_fl) (all_nil) (es := take_Take_o_es) Go.Proofs.Tryd.func18 (by kernel_rfl) rfl (all_nil) rfl take_Take_o_den

/-! ### flotsam/take.Take -/
def take_Take_n_r (a0 : Heap) (a1 : List (List Int)) (a2 : Int) (a3 : Int) : Option (Unit × Unit × Int × Bool × Unit) :=
  (class_Of (a3, ())).bind fun y1 =>
  bif !y1.2.1 then
    some ((), (), 0, false, ())
  else
  (take_Page (a0, a1, a2, y1.1, ())).bind fun y2 =>
  bif !y2.2.1 then
    some ((), (), 0, false, ())
  else
  bif decide (0 ≤ y2.1) then
    bif decide (y2.1 < (a0.2.1.length : Int)) then
      bif (a0.2.1.getD y2.1.toNat (0, 0, 0, ())).1 == 0 then
        (heap_Open (a0, y2.1, y1.1, ())).bind fun y3 =>
        (heap_Lay (y3.1, y2.1, a3, ())).bind fun y4 =>
        (slices_Clone_A4_int (a1, ())).bind fun y5 =>
        bif decide (0 ≤ a2) then
          bif decide (a2 < (y5.1.length : Int)) then
            bif decide (0 ≤ y1.1) then
              bif decide (y1.1 < 4) then
                some ((), (), y4.2.1, true, ())
              else none
            else none
          else none
        else none
      else
      (heap_Lay (a0, y2.1, a3, ())).bind fun y6 =>
      (slices_Clone_A4_int (a1, ())).bind fun y7 =>
      bif decide (0 ≤ a2) then
        bif decide (a2 < (y7.1.length : Int)) then
          bif decide (0 ≤ y1.1) then
            bif decide (y1.1 < 4) then
              some ((), (), y6.2.1, true, ())
            else none
          else none
        else none
      else none
    else none
  else none
def take_Take_n (x : Heap × (List (List Int)) × Int × Int × Unit) : Option (Unit × Unit × Int × Bool × Unit) := take_Take_n_r x.1 x.2.1 x.2.2.1 x.2.2.2.1
noncomputable def take_Take_n_sm : Sum := ⟨(.cons cHeap (.cons (.sl (.arr 4 cI)) (.cons cI (.cons cI .nil)))), (.cons (.no cHeap) (.cons (.no (.sl (.arr 4 cI))) (.cons (.d cI) (.cons (.d .bool) .nil)))), take_Take_n⟩
noncomputable def take_Take_n_S : List (Nat × Sum) := [(16, take_Page_sm), (34, class_Of_sm), (35, heap_Open_sm), (36, heap_Lay_sm), (37, slices_Clone_A4_int_sm)]
noncomputable def take_Take_n_fl : List (Nat × Func) := []
noncomputable def take_Take_n_es : List AE := []
theorem take_Take_n_den : (fun x => denFun TEv (look1 take_Take_n_S) (look1 take_Take_n_fl) (annOf take_Take_n_es) 8 18 Go.Proofs.Tryd.f18 take_Take_n_sm.a take_Take_n_sm.r x) = take_Take_n_sm.F := by kernel_rfl
theorem take_Take_n_sem : SemOf Go.Proofs.Tryd.prog 18 take_Take_n_sm :=
  semMk teOk (sl := take_Take_n_S) (all_cons take_Page_sem (all_cons class_Of_sem (all_cons heap_Open_sem (all_cons heap_Lay_sem (all_cons slices_Clone_A4_int_sem all_nil))))) (fl := take_Take_n_fl) (all_nil) (es := take_Take_n_es) Go.Proofs.Tryd.func18 (by kernel_rfl) rfl (all_nil) rfl take_Take_n_den

/-! ### flotsam/flotsamref11.Kept -/
def flotsamref11_Kept_s0r (v0 : List (List Int)) (v1 : Int) (v5 : Int) (v6 : Int) : Option (SRes (.cons (.sl (.arr 4 cI)) (.cons cI (.cons cI (.cons cI .nil)))) (.cons (.sl (.arr 4 cI)) (.cons cI (.cons cI .nil))) (.cons .bool .nil)) :=
  bif decide (v6 < 4) then
    bif decide (0 ≤ v5) then
      bif decide (v5 < (v0.length : Int)) then
        bif decide (0 ≤ v6) then
          bif decide (v6 < 4) then
            bif ((v0.getD v5.toNat (List.replicate 4 0)).getD v6.toNat 0) == v1 then
              some (.fin (.ret (true, ())))
            else
            some (.next (v0, v1, v5, wi64 (v6 + 1), ()))
          else none
        else none
      else none
    else none
  else
  some (.fin (.out (v0, v1, v5, ())))
def flotsamref11_Kept_s0 (x : (List (List Int)) × Int × Int × Int × Unit) : Option (SRes (.cons (.sl (.arr 4 cI)) (.cons cI (.cons cI (.cons cI .nil)))) (.cons (.sl (.arr 4 cI)) (.cons cI (.cons cI .nil))) (.cons .bool .nil)) := flotsamref11_Kept_s0r x.1 x.2.1 x.2.2.1 x.2.2.2.1
def flotsamref11_Kept_l0 (x : (List (List Int)) × Int × Int × Int × Unit) : Option (LRes (.cons (.sl (.arr 4 cI)) (.cons cI (.cons cI .nil))) (.cons .bool .nil)) := iterL (h := (.cons (.sl (.arr 4 cI)) (.cons cI (.cons cI (.cons cI .nil))))) (o := (.cons (.sl (.arr 4 cI)) (.cons cI (.cons cI .nil)))) (r := (.cons .bool .nil)) flotsamref11_Kept_s0 9223372036854775808 x
def flotsamref11_Kept_s1r (v0 : List (List Int)) (v1 : Int) (v5 : Int) : Option (SRes (.cons (.sl (.arr 4 cI)) (.cons cI (.cons cI .nil))) .nil (.cons .bool .nil)) :=
  bif decide (v5 < (v0.length : Int)) then
    bif decide (v1 ≥ 0) then
      (flotsamref11_Kept_l0 (v0, v1, v5, 0, ())).bind fun s1 => match s1 with
      | .out s1 =>
        some (.next (s1.1, s1.2.1, wi64 (s1.2.2.1 + 1), ()))
      | .ret s1 =>
        some (.fin (.ret (s1.1, ())))
    else
    some (.fin (.out ()))
  else
  some (.fin (.out ()))
def flotsamref11_Kept_s1 (x : (List (List Int)) × Int × Int × Unit) : Option (SRes (.cons (.sl (.arr 4 cI)) (.cons cI (.cons cI .nil))) .nil (.cons .bool .nil)) := flotsamref11_Kept_s1r x.1 x.2.1 x.2.2.1
def flotsamref11_Kept_l1 (x : (List (List Int)) × Int × Int × Unit) : Option (LRes .nil (.cons .bool .nil)) := iterL (h := (.cons (.sl (.arr 4 cI)) (.cons cI (.cons cI .nil)))) (o := .nil) (r := (.cons .bool .nil)) flotsamref11_Kept_s1 9223372036854775808 x
def flotsamref11_Kept_r (a0 : List (List Int)) (a1 : Int) : Option (Bool × Unit) :=
  (flotsamref11_Kept_l1 (a0, a1, 0, ())).bind fun s2 => match s2 with
  | .out s2 =>
    some (false, ())
  | .ret s2 =>
    some (s2.1, ())
def flotsamref11_Kept (x : (List (List Int)) × Int × Unit) : Option (Bool × Unit) := flotsamref11_Kept_r x.1 x.2.1
noncomputable def flotsamref11_Kept_sm : Sum := ⟨(.cons (.sl (.arr 4 cI)) (.cons cI .nil)), (.cons (.d .bool) .nil), flotsamref11_Kept⟩
noncomputable def flotsamref11_Kept_L0 : LoopSum := { hc := ⟨[], [0, 1, 5, 6], [], [], [], [], 176⟩, h := ⟨[(0, (.d (.sl (.arr 4 cI)))), (1, (.d cI)), (5, (.d cI)), (6, (.d cI))], [], [], 176⟩, xid := 2, oc := ⟨[], [0, 1, 5], [], [], [], [], 176⟩, o := ⟨[(0, (.d (.sl (.arr 4 cI)))), (1, (.d cI)), (5, (.d cI))], [], [], 176⟩, rc := ⟨[], [4], [], [], [], [], 176⟩, r := ⟨[(4, (.d .bool))], [], [], 176⟩, F := flotsamref11_Kept_l0 }
noncomputable def flotsamref11_Kept_L1 : LoopSum := { hc := ⟨[], [0, 1, 5], [], [], [], [], 32⟩, h := ⟨[(0, (.d (.sl (.arr 4 cI)))), (1, (.d cI)), (5, (.d cI))], [], [], 32⟩, xid := 0, oc := ⟨[], [], [], [], [], [], 32⟩, o := ⟨[], [], [], 32⟩, rc := ⟨[], [4], [], [], [], [], 32⟩, r := ⟨[(4, (.d .bool))], [], [], 32⟩, F := flotsamref11_Kept_l1 }
noncomputable def flotsamref11_Kept_S : List (Nat × Sum) := []
noncomputable def flotsamref11_Kept_fl : List (Nat × Func) := []
noncomputable def flotsamref11_Kept_es : List AE := [⟨8, 14, 0, 2, flotsamref11_Kept_L0⟩, ⟨8, 14, 0, 0, flotsamref11_Kept_L1⟩]
theorem flotsamref11_Kept_den0 : (fun x => denStep TEv (look1 flotsamref11_Kept_S) (look1 flotsamref11_Kept_fl) (annOf flotsamref11_Kept_es) 8 14 Go.Proofs.Tryd.f14.ntmps 0 (cat (bodyOf Go.Proofs.Tryd.f14) [true, false, true, false, false, true, false, false, true, false, false]) flotsamref11_Kept_L0 x) = flotsamref11_Kept_s0 := by kernel_rfl
theorem flotsamref11_Kept_den1 : (fun x => denStep TEv (look1 flotsamref11_Kept_S) (look1 flotsamref11_Kept_fl) (annOf flotsamref11_Kept_es) 8 14 Go.Proofs.Tryd.f14.ntmps 0 (cat (bodyOf Go.Proofs.Tryd.f14) [true, false, true, false, false]) flotsamref11_Kept_L1 x) = flotsamref11_Kept_s1 := by kernel_rfl
theorem flotsamref11_Kept_den : (fun x => denFun TEv (look1 flotsamref11_Kept_S) (look1 flotsamref11_Kept_fl) (annOf flotsamref11_Kept_es) 8 14 Go.Proofs.Tryd.f14 flotsamref11_Kept_sm.a flotsamref11_Kept_sm.r x) = flotsamref11_Kept_sm.F := by kernel_rfl
theorem flotsamref11_Kept_ok0 : AEok Go.Proofs.Tryd.prog TEv (look1 flotsamref11_Kept_S) (look1 flotsamref11_Kept_fl) (annOf flotsamref11_Kept_es) ⟨8, 14, 0, 2, flotsamref11_Kept_L0⟩ := aeok_of 9223372036854775808 Go.Proofs.Tryd.func14 (by kernel_rfl) flotsamref11_Kept_den0 (by kernel_rfl)
theorem flotsamref11_Kept_ok1 : AEok Go.Proofs.Tryd.prog TEv (look1 flotsamref11_Kept_S) (look1 flotsamref11_Kept_fl) (annOf flotsamref11_Kept_es) ⟨8, 14, 0, 0, flotsamref11_Kept_L1⟩ := aeok_of 9223372036854775808 Go.Proofs.Tryd.func14 (by kernel_rfl) flotsamref11_Kept_den1 (by kernel_rfl)
theorem flotsamref11_Kept_sem : SemOf Go.Proofs.Tryd.prog 14 flotsamref11_Kept_sm :=
  semMk teOk (sl := flotsamref11_Kept_S) (all_nil) (fl := flotsamref11_Kept_fl) (all_nil) (es := flotsamref11_Kept_es) Go.Proofs.Tryd.func14 (by kernel_rfl) rfl (all_cons flotsamref11_Kept_ok0 (all_cons flotsamref11_Kept_ok1 (all_nil))) rfl flotsamref11_Kept_den
end Go.Proofs.YtebdioogklmeaaaDoor.Den
