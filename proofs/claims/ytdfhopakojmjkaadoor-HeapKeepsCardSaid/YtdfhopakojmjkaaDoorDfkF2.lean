/- What functions come to. Printed by a program of this session. -/
import Derived.Test.YtdfhopakojmjkaaDoorDfkF1
namespace Go.Proofs.YtdfhopakojmjkaaDoor.Dfk
open Go
set_option maxRecDepth 100000
set_option linter.unusedVariables false
/-! ### flotsam/arena.Address -/
def arena_Address_r (a0 : Int) (a1 : Int) (a2 : Int) : Option (Int × Bool × Unit) :=
  bif decide (a0 < 0) then
    some (0, false, ())
  else
  bif decide (a0 ≥ 16) then
    some (0, false, ())
  else
  bif decide (a2 < 0) then
    some (0, false, ())
  else
  (class_Blocks (a1, ())).bind fun y1 =>
  bif decide (a2 ≥ y1.1) then
    some (0, false, ())
  else
  (class_Words (a1, ())).bind fun y2 =>
  some (wi64 ((wi64 (a0 * 32)) + (wi64 (a2 * y2.1))), true, ())
def arena_Address (x : Int × Val) : Option (Int × Bool × Unit) := arena_Address_r x.1 x.2.1 x.2.2.1
noncomputable def arena_Address_sm : Sum := ⟨(.cons cI cVal), (.cons (.d cI) (.cons (.d .bool) .nil)), arena_Address⟩
noncomputable def arena_Address_S : List (Nat × Sum) := [(102, class_Words_sm), (147, class_Blocks_sm)]
noncomputable def arena_Address_fl : List (Nat × Func) := []
noncomputable def arena_Address_es : List AE := []
theorem arena_Address_den : (fun x => denFun TEv (look1 arena_Address_S) (look1 arena_Address_fl) (annOf arena_Address_es) 8 117 Go.Proofs.Tryd.f117 arena_Address_sm.a arena_Address_sm.r x) = arena_Address_sm.F := by kernel_rfl
theorem arena_Address_sem : SemOf Go.Proofs.Tryd.prog 117 arena_Address_sm :=
  semMk teOk (sl := arena_Address_S) (all_cons class_Words_sem (all_cons class_Blocks_sem all_nil)) (fl := arena_Address_fl) (all_nil) (es := arena_Address_es) Go.Proofs.Tryd.func117 (by kernel_rfl) rfl (all_nil) rfl arena_Address_den

/-! ### flotsam/heap.Lay -/
def heap_Lay_r (a0 : Heap) (a1 : Int) (a2 : Int) : Option (Heap × Int × Bool × Unit) :=
  (heap_page (a0, a1, ())).bind fun y1 =>
  bif !y1.2.1 then
    some (a0, 0, false, ())
  else
  (span_Take (y1.1, ())).bind fun y2 =>
  bif y2.2.2.1 then
    bif decide (a2 ≥ 0) then
      (class_Fields (y1.1.2.1, ())).bind fun y3 =>
      bif !(decide (a2 ≤ y3.1)) then
        some (a0, 0, false, ())
      else
      (slices_Clone_uint64 (a0.1, ())).bind fun y4 =>
      (slices_Clone_api_Span (a0.2.1, ())).bind fun y5 =>
      bif decide (0 ≤ a1) then
        bif decide (a1 < (y5.1.length : Int)) then
          bif decide (0 ≤ a1) then
            bif decide (a1 < ((y5.1.set a1.toNat y2.1).length : Int)) then
              (arena_Address (a1, ((y5.1.set a1.toNat y2.1).getD a1.toNat (0, 0, 0, ())).2.1, y2.2.1, ())).bind fun y6 =>
              (header_Put ((true, a0.2.2.1, ((y5.1.set a1.toNat y2.1).getD a1.toNat (0, 0, 0, ())).2.1, a2, ()), ())).bind fun y7 =>
              (class_Words (((y5.1.set a1.toNat y2.1).getD a1.toNat (0, 0, 0, ())).2.1, ())).bind fun y8 =>
              bif decide (0 ≤ y6.1) then
                bif decide (y6.1 ≤ (wi64 (y6.1 + y8.1))) then
                  bif decide ((wi64 (y6.1 + y8.1)) ≤ (y4.1.length : Int)) then
                    bif decide (0 ≤ y6.1) then
                      bif decide (y6.1 < ((segSet y4.1 y6.1.toNat (List.replicate ((wi64 (y6.1 + y8.1)).toNat - y6.1.toNat) 0)).length : Int)) then
                        some (((segSet y4.1 y6.1.toNat (List.replicate ((wi64 (y6.1 + y8.1)).toNat - y6.1.toNat) 0)).set y6.1.toNat y7.1, y5.1.set a1.toNat y2.1, a0.2.2), y6.1, true, ())
                      else none
                    else none
                  else none
                else none
              else none
            else none
          else none
        else none
      else none
    else
    some (a0, 0, false, ())
  else
  some (a0, 0, false, ())
def heap_Lay (x : Heap × Val) : Option (Heap × Int × Bool × Unit) := heap_Lay_r x.1 x.2.1 x.2.2.1
noncomputable def heap_Lay_sm : Sum := ⟨(.cons cHeap cVal), (.cons (.d cHeap) (.cons (.d cI) (.cons (.d .bool) .nil))), heap_Lay⟩
noncomputable def heap_Lay_S : List (Nat × Sum) := [(85, header_Put_sm), (97, heap_page_sm), (102, class_Words_sm), (115, span_Take_sm), (116, class_Fields_sm), (117, arena_Address_sm), (129, slices_Clone_uint64_sm), (130, slices_Clone_api_Span_sm)]
noncomputable def heap_Lay_fl : List (Nat × Func) := [(104, Go.Proofs.Tryd.f104), (114, Go.Proofs.Tryd.f114)]
noncomputable def heap_Lay_es : List AE := []
theorem heap_Lay_den : (fun x => denFun TEv (look1 heap_Lay_S) (look1 heap_Lay_fl) (annOf heap_Lay_es) 8 57 Go.Proofs.Tryd.f57 heap_Lay_sm.a heap_Lay_sm.r x) = heap_Lay_sm.F := by kernel_rfl
theorem heap_Lay_sem : SemOf Go.Proofs.Tryd.prog 57 heap_Lay_sm :=
  semMk teOk (sl := heap_Lay_S) (all_cons header_Put_sem (all_cons heap_page_sem (all_cons class_Words_sem (all_cons span_Take_sem (all_cons class_Fields_sem (all_cons arena_Address_sem (all_cons slices_Clone_uint64_sem (all_cons slices_Clone_api_Span_sem all_nil)))))))) (fl := heap_Lay_fl) (all_cons ⟨Go.Proofs.Tryd.func104, by kernel_rfl⟩ (all_cons ⟨Go.Proofs.Tryd.func114, by kernel_rfl⟩ (all_nil))) (es := heap_Lay_es) Go.Proofs.Tryd.func57 (by kernel_rfl) rfl (all_nil) rfl heap_Lay_den

/-! ### flotsam/heap.Lay -/
def heap_Lay_o_r (a0 : Heap) (a1 : Int) (a2 : Int) : Option (Heap × Int × Bool × Unit) :=
  (heap_page (a0, a1, ())).bind fun y1 =>
  bif !y1.2.1 then none else
  (span_Take (y1.1, ())).bind fun y2 =>
  bif y2.2.2.1 then
    bif decide (a2 ≥ 0) then
      (class_Fields (y1.1.2.1, ())).bind fun y3 =>
      bif !(decide (a2 ≤ y3.1)) then none else
      (slices_Clone_uint64 (a0.1, ())).bind fun y4 =>
      (slices_Clone_api_Span (a0.2.1, ())).bind fun y5 =>
      bif decide (0 ≤ a1) then
        bif decide (a1 < (y5.1.length : Int)) then
          bif decide (0 ≤ a1) then
            bif decide (a1 < ((y5.1.set a1.toNat y2.1).length : Int)) then
              (arena_Address (a1, ((y5.1.set a1.toNat y2.1).getD a1.toNat (0, 0, 0, ())).2.1, y2.2.1, ())).bind fun y6 =>
              (header_Put ((true, a0.2.2.1, ((y5.1.set a1.toNat y2.1).getD a1.toNat (0, 0, 0, ())).2.1, a2, ()), ())).bind fun y7 =>
              (class_Words (((y5.1.set a1.toNat y2.1).getD a1.toNat (0, 0, 0, ())).2.1, ())).bind fun y8 =>
              bif decide (0 ≤ y6.1) then
                bif decide (y6.1 ≤ (wi64 (y6.1 + y8.1))) then
                  bif decide ((wi64 (y6.1 + y8.1)) ≤ (y4.1.length : Int)) then
                    bif decide (0 ≤ y6.1) then
                      bif decide (y6.1 < ((segSet y4.1 y6.1.toNat (List.replicate ((wi64 (y6.1 + y8.1)).toNat - y6.1.toNat) 0)).length : Int)) then
                        some (((segSet y4.1 y6.1.toNat (List.replicate ((wi64 (y6.1 + y8.1)).toNat - y6.1.toNat) 0)).set y6.1.toNat y7.1, y5.1.set a1.toNat y2.1, a0.2.2), y6.1, true, ())
                      else none
                    else none
                  else none
                else none
              else none
            else none
          else none
        else none
      else none
    else none
  else none
def heap_Lay_o (x : Heap × Val) : Option (Heap × Int × Bool × Unit) := heap_Lay_o_r x.1 x.2.1 x.2.2.1
noncomputable def heap_Lay_o_sm : Sum := ⟨(.cons cHeap cVal), (.cons (.cons (.own (.int .u64)) (.cons (.own cSpan) (.d (.cons .bool .nil)))) (.cons (.d cI) (.cons (.d .bool) .nil))), heap_Lay_o⟩
noncomputable def heap_Lay_o_S : List (Nat × Sum) := [(85, header_Put_sm), (97, heap_page_sm), (102, class_Words_sm), (115, span_Take_sm), (116, class_Fields_sm), (117, arena_Address_sm), (129, slices_Clone_uint64_sm), (130, slices_Clone_api_Span_sm)]
noncomputable def heap_Lay_o_fl : List (Nat × Func) := [(104, Go.Proofs.Tryd.f104), (114, Go.Proofs.Tryd.f114)]
noncomputable def heap_Lay_o_es : List AE := []
theorem heap_Lay_o_den : (fun x => denFun TEv (look1 heap_Lay_o_S) (look1 heap_Lay_o_fl) (annOf heap_Lay_o_es) 8 57 Go.Proofs.Tryd.f57 heap_Lay_o_sm.a heap_Lay_o_sm.r x) = heap_Lay_o_sm.F := by kernel_rfl
theorem heap_Lay_o_sem : SemOf Go.Proofs.Tryd.prog 57 heap_Lay_o_sm :=
  semMk teOk (sl := heap_Lay_o_S) (all_cons header_Put_sem (all_cons heap_page_sem (all_cons class_Words_sem (all_cons span_Take_sem (all_cons class_Fields_sem (all_cons arena_Address_sem (all_cons slices_Clone_uint64_sem (all_cons slices_Clone_api_Span_sem all_nil)))))))) (fl := heap_Lay_o_fl) (all_cons ⟨Go.Proofs.Tryd.func104, by kernel_rfl⟩ (all_cons ⟨Go.Proofs.Tryd.func114, by kernel_rfl⟩ (all_nil))) (es := heap_Lay_o_es) Go.Proofs.Tryd.func57 (by kernel_rfl) rfl (all_nil) rfl heap_Lay_o_den

/-! ### flotsam/heap.Lay -/
def heap_Lay_n_r (a0 : Heap) (a1 : Int) (a2 : Int) : Option (Unit × Int × Bool × Unit) :=
  (heap_page (a0, a1, ())).bind fun y1 =>
  bif !y1.2.1 then
    some ((), 0, false, ())
  else
  (span_Take (y1.1, ())).bind fun y2 =>
  bif y2.2.2.1 then
    bif decide (a2 ≥ 0) then
      (class_Fields (y1.1.2.1, ())).bind fun y3 =>
      bif !(decide (a2 ≤ y3.1)) then
        some ((), 0, false, ())
      else
      (slices_Clone_uint64 (a0.1, ())).bind fun y4 =>
      (slices_Clone_api_Span (a0.2.1, ())).bind fun y5 =>
      bif decide (0 ≤ a1) then
        bif decide (a1 < (y5.1.length : Int)) then
          bif decide (0 ≤ a1) then
            bif decide (a1 < ((y5.1.set a1.toNat y2.1).length : Int)) then
              (arena_Address (a1, ((y5.1.set a1.toNat y2.1).getD a1.toNat (0, 0, 0, ())).2.1, y2.2.1, ())).bind fun y6 =>
              (header_Put ((true, a0.2.2.1, ((y5.1.set a1.toNat y2.1).getD a1.toNat (0, 0, 0, ())).2.1, a2, ()), ())).bind fun y7 =>
              (class_Words (((y5.1.set a1.toNat y2.1).getD a1.toNat (0, 0, 0, ())).2.1, ())).bind fun y8 =>
              bif decide (0 ≤ y6.1) then
                bif decide (y6.1 ≤ (wi64 (y6.1 + y8.1))) then
                  bif decide ((wi64 (y6.1 + y8.1)) ≤ (y4.1.length : Int)) then
                    bif decide (0 ≤ y6.1) then
                      bif decide (y6.1 < ((segSet y4.1 y6.1.toNat (List.replicate ((wi64 (y6.1 + y8.1)).toNat - y6.1.toNat) 0)).length : Int)) then
                        some ((), y6.1, true, ())
                      else none
                    else none
                  else none
                else none
              else none
            else none
          else none
        else none
      else none
    else
    some ((), 0, false, ())
  else
  some ((), 0, false, ())
def heap_Lay_n (x : Heap × Val) : Option (Unit × Int × Bool × Unit) := heap_Lay_n_r x.1 x.2.1 x.2.2.1
noncomputable def heap_Lay_n_sm : Sum := ⟨(.cons cHeap cVal), (.cons (.no cHeap) (.cons (.d cI) (.cons (.d .bool) .nil))), heap_Lay_n⟩
noncomputable def heap_Lay_n_S : List (Nat × Sum) := [(85, header_Put_sm), (97, heap_page_sm), (102, class_Words_sm), (115, span_Take_sm), (116, class_Fields_sm), (117, arena_Address_sm), (129, slices_Clone_uint64_sm), (130, slices_Clone_api_Span_sm)]
noncomputable def heap_Lay_n_fl : List (Nat × Func) := [(104, Go.Proofs.Tryd.f104), (114, Go.Proofs.Tryd.f114)]
noncomputable def heap_Lay_n_es : List AE := []
theorem heap_Lay_n_den : (fun x => denFun TEv (look1 heap_Lay_n_S) (look1 heap_Lay_n_fl) (annOf heap_Lay_n_es) 8 57 Go.Proofs.Tryd.f57 heap_Lay_n_sm.a heap_Lay_n_sm.r x) = heap_Lay_n_sm.F := by kernel_rfl
theorem heap_Lay_n_sem : SemOf Go.Proofs.Tryd.prog 57 heap_Lay_n_sm :=
  semMk teOk (sl := heap_Lay_n_S) (all_cons header_Put_sem (all_cons heap_page_sem (all_cons class_Words_sem (all_cons span_Take_sem (all_cons class_Fields_sem (all_cons arena_Address_sem (all_cons slices_Clone_uint64_sem (all_cons slices_Clone_api_Span_sem all_nil)))))))) (fl := heap_Lay_n_fl) (all_cons ⟨Go.Proofs.Tryd.func104, by kernel_rfl⟩ (all_cons ⟨Go.Proofs.Tryd.func114, by kernel_rfl⟩ (all_nil))) (es := heap_Lay_n_es) Go.Proofs.Tryd.func57 (by kernel_rfl) rfl (all_nil) rfl heap_Lay_n_den

/-! ### flotsam/flotsamref02.Put -/
def flotsamref02_Put_r (a0 : Hdr) : Option (Int × Unit) :=
  bif !a0.1 then
    some (0, ())
  else
  bif a0.2.1 then
    some (wu64 (wi64 ((wi64 ((wi64 (128 + (wi64 (16 * a0.2.2.1)))) + a0.2.2.2.1)) + 64)), ())
  else
  some (wu64 (wi64 ((wi64 (128 + (wi64 (16 * a0.2.2.1)))) + a0.2.2.2.1)), ())
def flotsamref02_Put (x : Hdr × Unit) : Option (Int × Unit) := flotsamref02_Put_r x.1
noncomputable def flotsamref02_Put_sm : Sum := ⟨(.cons cHdr .nil), (.cons (.d (.int .u64)) .nil), flotsamref02_Put⟩
noncomputable def flotsamref02_Put_S : List (Nat × Sum) := []
noncomputable def flotsamref02_Put_fl : List (Nat × Func) := []
noncomputable def flotsamref02_Put_es : List AE := []
theorem flotsamref02_Put_den : (fun x => denFun TEv (look1 flotsamref02_Put_S) (look1 flotsamref02_Put_fl) (annOf flotsamref02_Put_es) 8 89 Go.Proofs.Tryd.f89 flotsamref02_Put_sm.a flotsamref02_Put_sm.r x) = flotsamref02_Put_sm.F := by kernel_rfl
theorem flotsamref02_Put_sem : SemOf Go.Proofs.Tryd.prog 89 flotsamref02_Put_sm :=
  semMk teOk (sl := flotsamref02_Put_S) (all_nil) (fl := flotsamref02_Put_fl) (all_nil) (es := flotsamref02_Put_es) Go.Proofs.Tryd.func89 (by kernel_rfl) rfl (all_nil) rfl flotsamref02_Put_den

/-! ### flotsam/flotsamlaw07.awake -/
def flotsamlaw07_awake_r  : Option (Bool × Unit) :=
  (heap_New (2, ())).bind fun y1 =>
  (heap_Open ((y1.1.1, y1.1.2.1, y1.1.2.2.1, ()), 1, 3, ())).bind fun y2 =>
  (heap_Lay (y2.1, 1, 9, ())).bind fun y3 =>
  (heap_Lay (y2.1, 1, 16, ())).bind fun y4 =>
  (heap_Find (y3.1, 32, ())).bind fun y5 =>
  (heap_Free (y3.1, 32, ())).bind fun y6 =>
  (heap_Close (y3.1, 1, ())).bind fun y7 =>
  (heap_Close (y6.1, 1, ())).bind fun y8 =>
  (heap_New (0, ())).bind fun y9 =>
  bif y1.2.1 == 0 then
    bif y2.2.1 then
      bif y3.2.1 == 32 then
        bif y3.2.2.1 then
          bif !y4.2.2.1 then
            bif y5.1 == 1 then
              bif y5.2.1 == 0 then
                bif y5.2.2.1 then
                  bif y6.2.1 then
                    bif !y7.2.1 then
                      bif y8.2.1 then
                        (flotsamref07_Same (y8.1, (y1.1.1, y1.1.2.1, y1.1.2.2.1, ()), ())).bind fun y10 =>
                        bif y10.1 then
                          bif y9.2.1 == 1 then
                            (heap_Used (y3.1, ())).bind fun y11 =>
                            bif y11.1 == 16 then
                              (heap_Form (y3.1, ())).bind fun y12 =>
                              bif y12.1 then
                                (heap_Form (([], [], false, ()), ())).bind fun y13 =>
                                bif !y13.1 then
                                  bif decide (32 < (y3.1.1.length : Int)) then
                                    (flotsamref02_Put ((true, false, 3, 9, ()), ())).bind fun y14 =>
                                    some ((y3.1.1.getD 32 0) == y14.1, ())
                                  else none
                                else
                                some (false, ())
                              else
                              some (false, ())
                            else
                            some (false, ())
                          else
                          some (false, ())
                        else
                        some (false, ())
                      else
                      some (false, ())
                    else
                    some (false, ())
                  else
                  some (false, ())
                else
                some (false, ())
              else
              some (false, ())
            else
            some (false, ())
          else
          some (false, ())
        else
        some (false, ())
      else
      some (false, ())
    else
    some (false, ())
  else
  some (false, ())
def flotsamlaw07_awake (x : Unit) : Option (Bool × Unit) := flotsamlaw07_awake_r 
noncomputable def flotsamlaw07_awake_sm : Sum := ⟨.nil, (.cons (.d .bool) .nil), flotsamlaw07_awake⟩
noncomputable def flotsamlaw07_awake_S : List (Nat × Sum) := [(31, flotsamref07_Same_sm), (44, heap_New_sm), (46, heap_Form_sm), (47, heap_Find_sm), (49, heap_Used_sm), (51, heap_Open_sm), (53, heap_Close_sm), (55, heap_Free_sm), (57, heap_Lay_sm), (89, flotsamref02_Put_sm)]
noncomputable def flotsamlaw07_awake_fl : List (Nat × Func) := []
noncomputable def flotsamlaw07_awake_es : List AE := []
theorem flotsamlaw07_awake_den : (fun x => denFun TEv (look1 flotsamlaw07_awake_S) (look1 flotsamlaw07_awake_fl) (annOf flotsamlaw07_awake_es) 8 43 Go.Proofs.Tryd.f43 flotsamlaw07_awake_sm.a flotsamlaw07_awake_sm.r x) = flotsamlaw07_awake_sm.F := by kernel_rfl
theorem flotsamlaw07_awake_sem : SemOf Go.Proofs.Tryd.prog 43 flotsamlaw07_awake_sm :=
  semMk teOk (sl := flotsamlaw07_awake_S) (all_cons flotsamref07_Same_sem (all_cons heap_New_sem (all_cons heap_Form_sem (all_cons heap_Find_sem (all_cons heap_Used_sem (all_cons heap_Open_sem (all_cons heap_Close_sem (all_cons heap_Free_sem (all_cons heap_Lay_sem (all_cons flotsamref02_Put_sem all_nil)))))))))) (fl := flotsamlaw07_awake_fl) (all_nil) (es := flotsamlaw07_awake_es) Go.Proofs.Tryd.func43 (by kernel_rfl) rfl (all_nil) rfl flotsamlaw07_awake_den

/-! ### flotsam/flotsamref07.with -/
def flotsamref07_with_s0r (v1 : Int) (v8 : Int) (c0 : Heap) (c16 : Span) (c32 : Bool × Unit) (c96 : Bool × Unit) (r192 : List Int) (r256 : List Span) : Option (SRes (.cons cI (.cons cI (.cons cHeap (.cons cSpan (.cons (.cons .bool .nil) (.cons (.cons .bool .nil) (.cons (.sl (.int .u64)) (.cons (.sl cSpan) .nil)))))))) (.cons (.cons .bool .nil) (.cons (.cons .bool .nil) (.cons (.sl (.int .u64)) (.cons (.sl cSpan) .nil)))) .nil) :=
  bif decide (v8 < (c0.2.1.length : Int)) then
    bif decide (0 ≤ v8) then
      bif decide (v8 < (c0.2.1.length : Int)) then
        bif v8 == v1 then
          bif decide ((r256.length + 1) * 24 ≤ 140737488355328) then
            some (.next (v1, wi64 (v8 + 1), c0, c16, c32, c96, r192, r256 ++ [c16], ()))
          else none
        else
        bif decide ((r256.length + 1) * 24 ≤ 140737488355328) then
          some (.next (v1, wi64 (v8 + 1), c0, c16, c32, c96, r192, r256 ++ [c0.2.1.getD v8.toNat (0, 0, 0, ())], ()))
        else none
      else none
    else none
  else
  some (.fin (.out (c32, c96, r192, r256, ())))
def flotsamref07_with_s0 (x : Int × Int × Heap × Span × (Bool × Unit) × (Bool × Unit) × (List Int) × (List Span) × Unit) : Option (SRes (.cons cI (.cons cI (.cons cHeap (.cons cSpan (.cons (.cons .bool .nil) (.cons (.cons .bool .nil) (.cons (.sl (.int .u64)) (.cons (.sl cSpan) .nil)))))))) (.cons (.cons .bool .nil) (.cons (.cons .bool .nil) (.cons (.sl (.int .u64)) (.cons (.sl cSpan) .nil)))) .nil) := flotsamref07_with_s0r x.1 x.2.1 x.2.2.1 x.2.2.2.1 x.2.2.2.2.1 x.2.2.2.2.2.1 x.2.2.2.2.2.2.1 x.2.2.2.2.2.2.2.1
def flotsamref07_with_l0 (x : Int × Int × Heap × Span × (Bool × Unit) × (Bool × Unit) × (List Int) × (List Span) × Unit) : Option (LRes (.cons (.cons .bool .nil) (.cons (.cons .bool .nil) (.cons (.sl (.int .u64)) (.cons (.sl cSpan) .nil)))) .nil) := iterL (h := (.cons cI (.cons cI (.cons cHeap (.cons cSpan (.cons (.cons .bool .nil) (.cons (.cons .bool .nil) (.cons (.sl (.int .u64)) (.cons (.sl cSpan) .nil))))))))) (o := (.cons (.cons .bool .nil) (.cons (.cons .bool .nil) (.cons (.sl (.int .u64)) (.cons (.sl cSpan) .nil))))) (r := .nil) flotsamref07_with_s0 9223372036854775808 x
def flotsamref07_with_r (a0 : Heap) (a1 : Int) (a2 : Span) : Option (Heap × Unit) :=
  bif decide (a0.1.length * 8 ≤ 140737488355328) then
    (flotsamref07_with_l0 (a1, 0, a0, a2, (false, ()), (a0.2.2.1, ()), a0.1, [], ())).bind fun s1 => match s1 with
    | .out s1 =>
      some ((s1.2.2.1, s1.2.2.2.1, s1.2.1), ())
    | .ret s1 =>
      none
  else none
def flotsamref07_with (x : Heap × Int × Span × Unit) : Option (Heap × Unit) := flotsamref07_with_r x.1 x.2.1 x.2.2.1
noncomputable def flotsamref07_with_sm : Sum := ⟨(.cons cHeap (.cons cI (.cons cSpan .nil))), (.cons (.cons (.own (.int .u64)) (.cons (.own cSpan) (.d (.cons .bool .nil)))) .nil), flotsamref07_with⟩
noncomputable def flotsamref07_with_L0 : LoopSum := { hc := ⟨[], [1, 3, 5, 6, 7, 8], [(.key 96 [.fld 1], cSpan)], [], [0, 16, 32, 96], [192], 256⟩, h := ⟨[(1, (.d cI)), (3, (.pvar 0 [])), (5, (.pvar 16 [])), (6, (.pvar 32 [])), (7, (.pvar 96 [])), (8, (.d cI))], [(0, (.d cHeap)), (16, (.d cSpan)), (32, (.cons .nilsl (.cons .nilsl (.d (.cons .bool .nil))))), (96, (.cons (.row 192) (.cons (.row 256) (.d (.cons .bool .nil)))))], [(192, (.int .u64), true), (256, cSpan, true)], 257⟩, xid := 0, oc := ⟨[], [6, 7], [(.ptr 7 [.fld 1], cSpan)], [], [32, 96], [192], 256⟩, o := ⟨[(6, (.pvar 32 [])), (7, (.pvar 96 []))], [(32, (.cons .nilsl (.cons .nilsl (.d (.cons .bool .nil))))), (96, (.cons (.row 192) (.cons (.row 256) (.d (.cons .bool .nil)))))], [(192, (.int .u64), true), (256, cSpan, true)], 257⟩, rc := ⟨[], [], [], [], [], [], 256⟩, r := ⟨[], [], [], 256⟩, F := flotsamref07_with_l0 }
noncomputable def flotsamref07_with_S : List (Nat × Sum) := []
noncomputable def flotsamref07_with_fl : List (Nat × Func) := []
noncomputable def flotsamref07_with_es : List AE := [⟨8, 107, 0, 0, flotsamref07_with_L0⟩]
theorem flotsamref07_with_den0 : (fun x => denStep TEv (look1 flotsamref07_with_S) (look1 flotsamref07_with_fl) (annOf flotsamref07_with_es) 8 107 Go.Proofs.Tryd.f107.ntmps 0 (cat (bodyOf Go.Proofs.Tryd.f107) [true, true, true, false, true, false, false]) flotsamref07_with_L0 x) = flotsamref07_with_s0 := by kernel_rfl
theorem flotsamref07_with_den : (fun x => denFun TEv (look1 flotsamref07_with_S) (look1 flotsamref07_with_fl) (annOf flotsamref07_with_es) 8 107 Go.Proofs.Tryd.f107 flotsamref07_with_sm.a flotsamref07_with_sm.r x) = flotsamref07_with_sm.F := by kernel_rfl
theorem flotsamref07_with_ok0 : AEok Go.Proofs.Tryd.prog TEv (look1 flotsamref07_with_S) (look1 flotsamref07_with_fl) (annOf flotsamref07_with_es) ⟨8, 107, 0, 0, flotsamref07_with_L0⟩ := aeok_of 9223372036854775808 Go.Proofs.Tryd.func107 (by kernel_rfl) flotsamref07_with_den0 (by kernel_rfl)
theorem flotsamref07_with_sem : SemOf Go.Proofs.Tryd.prog 107 flotsamref07_with_sm :=
  semMk teOk (sl := flotsamref07_with_S) (all_nil) (fl := flotsamref07_with_fl) (all_nil) (es := flotsamref07_with_es) Go.Proofs.Tryd.func107 (by kernel_rfl) rfl (all_cons flotsamref07_with_ok0 (all_nil)) rfl flotsamref07_with_den

/-! ### flotsam/flotsamref03.Of -/
def flotsamref03_Of_s0r (v3 : Int) (v4 : Int) (c0 : List Bool) : Option (SRes (.cons (.int .u32) (.cons cI (.cons (.arr 32 .bool) .nil))) (.cons (.int .u32) .nil) .nil) :=
  bif decide (v4 ≥ 0) then
    bif decide (0 ≤ v4) then
      bif decide (v4 < 32) then
        bif c0.getD v4.toNat false then
          some (.next (wu32 ((wu32 (2 * v3)) + 1), wi64 (v4 - 1), c0, ()))
        else
        some (.next (wu32 (2 * v3), wi64 (v4 - 1), c0, ()))
      else none
    else none
  else
  some (.fin (.out (v3, ())))
def flotsamref03_Of_s0 (x : Int × Int × (List Bool) × Unit) : Option (SRes (.cons (.int .u32) (.cons cI (.cons (.arr 32 .bool) .nil))) (.cons (.int .u32) .nil) .nil) := flotsamref03_Of_s0r x.1 x.2.1 x.2.2.1
def flotsamref03_Of_l0 (x : Int × Int × (List Bool) × Unit) : Option (LRes (.cons (.int .u32) .nil) .nil) := iterL (h := (.cons (.int .u32) (.cons cI (.cons (.arr 32 .bool) .nil)))) (o := (.cons (.int .u32) .nil)) (r := .nil) flotsamref03_Of_s0 9223372036854775808 x
def flotsamref03_Of_r (a0 : List Bool) : Option (Int × Unit) :=
  (flotsamref03_Of_l0 (0, 31, a0, ())).bind fun s1 => match s1 with
  | .out s1 =>
    some (s1.1, ())
  | .ret s1 =>
    none
def flotsamref03_Of (x : (List Bool) × Unit) : Option (Int × Unit) := flotsamref03_Of_r x.1
noncomputable def flotsamref03_Of_sm : Sum := ⟨(.cons (.arr 32 .bool) .nil), (.cons (.d (.int .u32)) .nil), flotsamref03_Of⟩
noncomputable def flotsamref03_Of_L0 : LoopSum := { hc := ⟨[], [1, 3, 4], [], [], [0], [], 64⟩, h := ⟨[(1, (.pvar 0 [])), (3, (.d (.int .u32))), (4, (.d cI))], [(0, (.d (.arr 32 .bool)))], [], 64⟩, xid := 0, oc := ⟨[], [3], [], [], [], [], 64⟩, o := ⟨[(3, (.d (.int .u32)))], [], [], 64⟩, rc := ⟨[], [], [], [], [], [], 64⟩, r := ⟨[], [], [], 64⟩, F := flotsamref03_Of_l0 }
noncomputable def flotsamref03_Of_S : List (Nat × Sum) := []
noncomputable def flotsamref03_Of_fl : List (Nat × Func) := []
noncomputable def flotsamref03_Of_es : List AE := [⟨8, 154, 0, 0, flotsamref03_Of_L0⟩]
theorem flotsamref03_Of_den0 : (fun x => denStep TEv (look1 flotsamref03_Of_S) (look1 flotsamref03_Of_fl) (annOf flotsamref03_Of_es) 8 154 Go.Proofs.Tryd.f154.ntmps 0 (cat (bodyOf Go.Proofs.Tryd.f154) [true, true, false, true, false, false]) flotsamref03_Of_L0 x) = flotsamref03_Of_s0 := by kernel_rfl
theorem flotsamref03_Of_den : (fun x => denFun TEv (look1 flotsamref03_Of_S) (look1 flotsamref03_Of_fl) (annOf flotsamref03_Of_es) 8 154 Go.Proofs.Tryd.f154 flotsamref03_Of_sm.a flotsamref03_Of_sm.r x) = flotsamref03_Of_sm.F := by kernel_rfl
theorem flotsamref03_Of_ok0 : AEok Go.Proofs.Tryd.prog TEv (look1 flotsamref03_Of_S) (look1 flotsamref03_Of_fl) (annOf flotsamref03_Of_es) ⟨8, 154, 0, 0, flotsamref03_Of_L0⟩ := aeok_of 9223372036854775808 Go.Proofs.Tryd.func154 (by kernel_rfl) flotsamref03_Of_den0 (by kernel_rfl)
theorem flotsamref03_Of_sem : SemOf Go.Proofs.Tryd.prog 154 flotsamref03_Of_sm :=
  semMk teOk (sl := flotsamref03_Of_S) (all_nil) (fl := flotsamref03_Of_fl) (all_nil) (es := flotsamref03_Of_es) Go.Proofs.Tryd.func154 (by kernel_rfl) rfl (all_cons flotsamref03_Of_ok0 (all_nil)) rfl flotsamref03_Of_den

/-! ### flotsam/flotsamref03.Whole -/
def flotsamref03_Whole_s0r (v0 : Int) (v4 : Int) (c16 : List Bool) : Option (SRes (.cons cI (.cons cI (.cons (.arr 32 .bool) .nil))) (.cons (.arr 32 .bool) .nil) .nil) :=
  bif decide (v4 < 32) then
    bif decide (0 ≤ v4) then
      bif decide (v4 < 32) then
        some (.next (v0, wi64 (v4 + 1), c16.set v4.toNat (decide (v4 < v0)), ()))
      else none
    else none
  else
  some (.fin (.out (c16, ())))
def flotsamref03_Whole_s0 (x : Int × Int × (List Bool) × Unit) : Option (SRes (.cons cI (.cons cI (.cons (.arr 32 .bool) .nil))) (.cons (.arr 32 .bool) .nil) .nil) := flotsamref03_Whole_s0r x.1 x.2.1 x.2.2.1
def flotsamref03_Whole_l0 (x : Int × Int × (List Bool) × Unit) : Option (LRes (.cons (.arr 32 .bool) .nil) .nil) := iterL (h := (.cons cI (.cons cI (.cons (.arr 32 .bool) .nil)))) (o := (.cons (.arr 32 .bool) .nil)) (r := .nil) flotsamref03_Whole_s0 9223372036854775808 x
def flotsamref03_Whole_r (a0 : Int) : Option (Int × Unit) :=
  (flotsamref03_Whole_l0 (a0, 0, List.replicate 32 false, ())).bind fun s1 => match s1 with
  | .out s1 =>
    (flotsamref03_Of (s1.1, ())).bind fun y2 =>
    some (y2.1, ())
  | .ret s1 =>
    none
def flotsamref03_Whole (x : Int × Unit) : Option (Int × Unit) := flotsamref03_Whole_r x.1
noncomputable def flotsamref03_Whole_sm : Sum := ⟨(.cons cI .nil), (.cons (.d (.int .u32)) .nil), flotsamref03_Whole⟩
noncomputable def flotsamref03_Whole_L0 : LoopSum := { hc := ⟨[], [0, 3, 4], [], [], [16], [], 48⟩, h := ⟨[(0, (.d cI)), (3, (.pvar 16 [])), (4, (.d cI))], [(16, (.d (.arr 32 .bool)))], [], 48⟩, xid := 0, oc := ⟨[], [3], [], [], [16], [], 48⟩, o := ⟨[(3, (.pvar 16 []))], [(16, (.d (.arr 32 .bool)))], [], 48⟩, rc := ⟨[], [], [], [], [], [], 48⟩, r := ⟨[], [], [], 48⟩, F := flotsamref03_Whole_l0 }
noncomputable def flotsamref03_Whole_S : List (Nat × Sum) := [(154, flotsamref03_Of_sm)]
noncomputable def flotsamref03_Whole_fl : List (Nat × Func) := []
noncomputable def flotsamref03_Whole_es : List AE := [⟨8, 108, 0, 0, flotsamref03_Whole_L0⟩]
theorem flotsamref03_Whole_den0 : (fun x => denStep TEv (look1 flotsamref03_Whole_S) (look1 flotsamref03_Whole_fl) (annOf flotsamref03_Whole_es) 8 108 Go.Proofs.Tryd.f108.ntmps 0 (cat (bodyOf Go.Proofs.Tryd.f108) [true, true, false, true, false, false]) flotsamref03_Whole_L0 x) = flotsamref03_Whole_s0 := by kernel_rfl
theorem flotsamref03_Whole_den : (fun x => denFun TEv (look1 flotsamref03_Whole_S) (look1 flotsamref03_Whole_fl) (annOf flotsamref03_Whole_es) 8 108 Go.Proofs.Tryd.f108 flotsamref03_Whole_sm.a flotsamref03_Whole_sm.r x) = flotsamref03_Whole_sm.F := by kernel_rfl
theorem flotsamref03_Whole_ok0 : AEok Go.Proofs.Tryd.prog TEv (look1 flotsamref03_Whole_S) (look1 flotsamref03_Whole_fl) (annOf flotsamref03_Whole_es) ⟨8, 108, 0, 0, flotsamref03_Whole_L0⟩ := aeok_of 9223372036854775808 Go.Proofs.Tryd.func108 (by kernel_rfl) flotsamref03_Whole_den0 (by kernel_rfl)
theorem flotsamref03_Whole_sem : SemOf Go.Proofs.Tryd.prog 108 flotsamref03_Whole_sm :=
  semMk teOk (sl := flotsamref03_Whole_S) (all_cons flotsamref03_Of_sem all_nil) (fl := flotsamref03_Whole_fl) (all_nil) (es := flotsamref03_Whole_es) Go.Proofs.Tryd.func108 (by kernel_rfl) rfl (all_cons flotsamref03_Whole_ok0 (all_nil)) rfl flotsamref03_Whole_den

/-! ### flotsam/flotsamref07.Open -/
def flotsamref07_Open_r (a0 : Heap) (a1 : Int) (a2 : Int) : Option (Heap × Bool × Unit) :=
  bif decide (a1 < 0) then
    some (a0, false, ())
  else
  bif decide (a1 ≥ (a0.2.1.length : Int)) then
    some (a0, false, ())
  else
  bif decide (a2 < 0) then
    some (a0, false, ())
  else
  bif decide (a2 > 3) then
    some (a0, false, ())
  else
  bif decide (0 ≤ a1) then
    bif decide (a1 < (a0.2.1.length : Int)) then
      bif (a0.2.1.getD a1.toNat (0, 0, 0, ())).1 != 0 then
        some (a0, false, ())
      else
      (flotsamref04_Blocks (a2, ())).bind fun y1 =>
      (flotsamref03_Whole (y1.1, ())).bind fun y2 =>
      (flotsamref07_with (a0, a1, (1, a2, y2.1, ()), ())).bind fun y3 =>
      some ((y3.1.1, y3.1.2.1, y3.1.2.2), true, ())
    else none
  else none
def flotsamref07_Open (x : Heap × Val) : Option (Heap × Bool × Unit) := flotsamref07_Open_r x.1 x.2.1 x.2.2.1
noncomputable def flotsamref07_Open_sm : Sum := ⟨(.cons cHeap cVal), (.cons (.d cHeap) (.cons (.d .bool) .nil)), flotsamref07_Open⟩
noncomputable def flotsamref07_Open_S : List (Nat × Sum) := [(99, flotsamref04_Blocks_sm), (107, flotsamref07_with_sm), (108, flotsamref03_Whole_sm)]
noncomputable def flotsamref07_Open_fl : List (Nat × Func) := []
noncomputable def flotsamref07_Open_es : List AE := []
theorem flotsamref07_Open_den : (fun x => denFun TEv (look1 flotsamref07_Open_S) (look1 flotsamref07_Open_fl) (annOf flotsamref07_Open_es) 8 52 Go.Proofs.Tryd.f52 flotsamref07_Open_sm.a flotsamref07_Open_sm.r x) = flotsamref07_Open_sm.F := by kernel_rfl
theorem flotsamref07_Open_sem : SemOf Go.Proofs.Tryd.prog 52 flotsamref07_Open_sm :=
  semMk teOk (sl := flotsamref07_Open_S) (all_cons flotsamref04_Blocks_sem (all_cons flotsamref07_with_sem (all_cons flotsamref03_Whole_sem all_nil))) (fl := flotsamref07_Open_fl) (all_nil) (es := flotsamref07_Open_es) Go.Proofs.Tryd.func52 (by kernel_rfl) rfl (all_nil) rfl flotsamref07_Open_den

/-! ### flotsam/flotsamref03.Count -/
def flotsamref03_Count_s0r (v0 : Int) (v3 : Int) (v4 : Int) : Option (SRes (.cons (.int .u32) cVal) (.cons cI .nil) .nil) :=
  bif decide (v4 < 32) then
    (flotsamref03_Has (v0, v4, ())).bind fun y1 =>
    bif y1.1 then
      some (.next (v0, wi64 (v3 + 1), wi64 (v4 + 1), ()))
    else
    some (.next (v0, v3, wi64 (v4 + 1), ()))
  else
  some (.fin (.out (v3, ())))
def flotsamref03_Count_s0 (x : Int × Val) : Option (SRes (.cons (.int .u32) cVal) (.cons cI .nil) .nil) := flotsamref03_Count_s0r x.1 x.2.1 x.2.2.1
def flotsamref03_Count_l0 (x : Int × Val) : Option (LRes (.cons cI .nil) .nil) := iterL (h := (.cons (.int .u32) cVal)) (o := (.cons cI .nil)) (r := .nil) flotsamref03_Count_s0 9223372036854775808 x
def flotsamref03_Count_r (a0 : Int) : Option (Int × Unit) :=
  (flotsamref03_Count_l0 (a0, 0, 0, ())).bind fun s2 => match s2 with
  | .out s2 =>
    some (s2.1, ())
  | .ret s2 =>
    none
def flotsamref03_Count (x : Int × Unit) : Option (Int × Unit) := flotsamref03_Count_r x.1
noncomputable def flotsamref03_Count_sm : Sum := ⟨(.cons (.int .u32) .nil), (.cons (.d cI) .nil), flotsamref03_Count⟩
noncomputable def flotsamref03_Count_L0 : LoopSum := { hc := ⟨[], [0, 3, 4], [], [], [], [], 48⟩, h := ⟨[(0, (.d (.int .u32))), (3, (.d cI)), (4, (.d cI))], [], [], 48⟩, xid := 0, oc := ⟨[], [3], [], [], [], [], 48⟩, o := ⟨[(3, (.d cI))], [], [], 48⟩, rc := ⟨[], [], [], [], [], [], 48⟩, r := ⟨[], [], [], 48⟩, F := flotsamref03_Count_l0 }
noncomputable def flotsamref03_Count_S : List (Nat × Sum) := [(137, flotsamref03_Has_sm)]
noncomputable def flotsamref03_Count_fl : List (Nat × Func) := []
noncomputable def flotsamref03_Count_es : List AE := [⟨8, 153, 0, 0, flotsamref03_Count_L0⟩]
theorem flotsamref03_Count_den0 : (fun x => denStep TEv (look1 flotsamref03_Count_S) (look1 flotsamref03_Count_fl) (annOf flotsamref03_Count_es) 8 153 Go.Proofs.Tryd.f153.ntmps 0 (cat (bodyOf Go.Proofs.Tryd.f153) [true, true, false, true, false, false]) flotsamref03_Count_L0 x) = flotsamref03_Count_s0 := by kernel_rfl
theorem flotsamref03_Count_den : (fun x => denFun TEv (look1 flotsamref03_Count_S) (look1 flotsamref03_Count_fl) (annOf flotsamref03_Count_es) 8 153 Go.Proofs.Tryd.f153 flotsamref03_Count_sm.a flotsamref03_Count_sm.r x) = flotsamref03_Count_sm.F := by kernel_rfl
theorem flotsamref03_Count_ok0 : AEok Go.Proofs.Tryd.prog TEv (look1 flotsamref03_Count_S) (look1 flotsamref03_Count_fl) (annOf flotsamref03_Count_es) ⟨8, 153, 0, 0, flotsamref03_Count_L0⟩ := aeok_of 9223372036854775808 Go.Proofs.Tryd.func153 (by kernel_rfl) flotsamref03_Count_den0 (by kernel_rfl)
theorem flotsamref03_Count_sem : SemOf Go.Proofs.Tryd.prog 153 flotsamref03_Count_sm :=
  semMk teOk (sl := flotsamref03_Count_S) (all_cons flotsamref03_Has_sem all_nil) (fl := flotsamref03_Count_fl) (all_nil) (es := flotsamref03_Count_es) Go.Proofs.Tryd.func153 (by kernel_rfl) rfl (all_cons flotsamref03_Count_ok0 (all_nil)) rfl flotsamref03_Count_den

/-! ### flotsam/flotsamref06.Free -/
def flotsamref06_Free_r (a0 : Span) : Option (Int × Unit) :=
  (flotsamref03_Count (a0.2.2.1, ())).bind fun y1 =>
  some (y1.1, ())
def flotsamref06_Free (x : Span × Unit) : Option (Int × Unit) := flotsamref06_Free_r x.1
noncomputable def flotsamref06_Free_sm : Sum := ⟨(.cons cSpan .nil), (.cons (.d cI) .nil), flotsamref06_Free⟩
noncomputable def flotsamref06_Free_S : List (Nat × Sum) := [(153, flotsamref03_Count_sm)]
noncomputable def flotsamref06_Free_fl : List (Nat × Func) := []
noncomputable def flotsamref06_Free_es : List AE := []
theorem flotsamref06_Free_den : (fun x => denFun TEv (look1 flotsamref06_Free_S) (look1 flotsamref06_Free_fl) (annOf flotsamref06_Free_es) 8 103 Go.Proofs.Tryd.f103 flotsamref06_Free_sm.a flotsamref06_Free_sm.r x) = flotsamref06_Free_sm.F := by kernel_rfl
theorem flotsamref06_Free_sem : SemOf Go.Proofs.Tryd.prog 103 flotsamref06_Free_sm :=
  semMk teOk (sl := flotsamref06_Free_S) (all_cons flotsamref03_Count_sem all_nil) (fl := flotsamref06_Free_fl) (all_nil) (es := flotsamref06_Free_es) Go.Proofs.Tryd.func103 (by kernel_rfl) rfl (all_nil) rfl flotsamref06_Free_den

/-! ### flotsam/flotsamref07.Close -/
def flotsamref07_Close_r (a0 : Heap) (a1 : Int) : Option (Heap × Bool × Unit) :=
  bif decide (a1 < 0) then
    some (a0, false, ())
  else
  bif decide (a1 ≥ (a0.2.1.length : Int)) then
    some (a0, false, ())
  else
  bif decide (0 ≤ a1) then
    bif decide (a1 < (a0.2.1.length : Int)) then
      bif (a0.2.1.getD a1.toNat (0, 0, 0, ())).1 == 0 then
        some (a0, false, ())
      else
      bif decide (0 ≤ a1) then
        bif decide (a1 < (a0.2.1.length : Int)) then
          (flotsamref06_Free (a0.2.1.getD a1.toNat (0, 0, 0, ()), ())).bind fun y1 =>
          bif decide (0 ≤ a1) then
            bif decide (a1 < (a0.2.1.length : Int)) then
              (flotsamref04_Blocks ((a0.2.1.getD a1.toNat (0, 0, 0, ())).2.1, ())).bind fun y2 =>
              bif y1.1 != y2.1 then
                some (a0, false, ())
              else
              (flotsamref07_with (a0, a1, (0, 0, 0, ()), ())).bind fun y3 =>
              some ((y3.1.1, y3.1.2.1, y3.1.2.2), true, ())
            else none
          else none
        else none
      else none
    else none
  else none
def flotsamref07_Close (x : Heap × Int × Unit) : Option (Heap × Bool × Unit) := flotsamref07_Close_r x.1 x.2.1
noncomputable def flotsamref07_Close_sm : Sum := ⟨(.cons cHeap (.cons cI .nil)), (.cons (.d cHeap) (.cons (.d .bool) .nil)), flotsamref07_Close⟩
noncomputable def flotsamref07_Close_S : List (Nat × Sum) := [(99, flotsamref04_Blocks_sm), (103, flotsamref06_Free_sm), (107, flotsamref07_with_sm)]
noncomputable def flotsamref07_Close_fl : List (Nat × Func) := []
noncomputable def flotsamref07_Close_es : List AE := []
theorem flotsamref07_Close_den : (fun x => denFun TEv (look1 flotsamref07_Close_S) (look1 flotsamref07_Close_fl) (annOf flotsamref07_Close_es) 8 54 Go.Proofs.Tryd.f54 flotsamref07_Close_sm.a flotsamref07_Close_sm.r x) = flotsamref07_Close_sm.F := by kernel_rfl
theorem flotsamref07_Close_sem : SemOf Go.Proofs.Tryd.prog 54 flotsamref07_Close_sm :=
  semMk teOk (sl := flotsamref07_Close_S) (all_cons flotsamref04_Blocks_sem (all_cons flotsamref06_Free_sem (all_cons flotsamref07_with_sem all_nil))) (fl := flotsamref07_Close_fl) (all_nil) (es := flotsamref07_Close_es) Go.Proofs.Tryd.func54 (by kernel_rfl) rfl (all_nil) rfl flotsamref07_Close_den

/-! ### flotsam/flotsamref04.Words -/
def flotsamref04_Words_s0r (v0 : Int) (v3 : Int) (v4 : Int) : Option (SRes (.cons cI cVal) (.cons cI .nil) .nil) :=
  bif decide (v4 < v0) then
    some (.next (v0, wi64 (2 * v3), wi64 (v4 + 1), ()))
  else
  some (.fin (.out (v3, ())))
def flotsamref04_Words_s0 (x : Int × Val) : Option (SRes (.cons cI cVal) (.cons cI .nil) .nil) := flotsamref04_Words_s0r x.1 x.2.1 x.2.2.1
def flotsamref04_Words_l0 (x : Int × Val) : Option (LRes (.cons cI .nil) .nil) := iterL (h := (.cons cI cVal)) (o := (.cons cI .nil)) (r := .nil) flotsamref04_Words_s0 9223372036854775808 x
def flotsamref04_Words_r (a0 : Int) : Option (Int × Unit) :=
  bif decide (a0 < 0) then
    some (0, ())
  else
  bif decide (a0 > 3) then
    some (0, ())
  else
  (flotsamref04_Words_l0 (a0, 2, 0, ())).bind fun s1 => match s1 with
  | .out s1 =>
    some (s1.1, ())
  | .ret s1 =>
    none
def flotsamref04_Words (x : Int × Unit) : Option (Int × Unit) := flotsamref04_Words_r x.1
noncomputable def flotsamref04_Words_sm : Sum := ⟨(.cons cI .nil), (.cons (.d cI) .nil), flotsamref04_Words⟩
noncomputable def flotsamref04_Words_L0 : LoopSum := { hc := ⟨[], [0, 3, 4], [], [], [], [], 144⟩, h := ⟨[(0, (.d cI)), (3, (.d cI)), (4, (.d cI))], [], [], 144⟩, xid := 0, oc := ⟨[], [3], [], [], [], [], 144⟩, o := ⟨[(3, (.d cI))], [], [], 144⟩, rc := ⟨[], [], [], [], [], [], 144⟩, r := ⟨[], [], [], 144⟩, F := flotsamref04_Words_l0 }
noncomputable def flotsamref04_Words_S : List (Nat × Sum) := []
noncomputable def flotsamref04_Words_fl : List (Nat × Func) := []
noncomputable def flotsamref04_Words_es : List AE := [⟨8, 100, 0, 0, flotsamref04_Words_L0⟩]
theorem flotsamref04_Words_den0 : (fun x => denStep TEv (look1 flotsamref04_Words_S) (look1 flotsamref04_Words_fl) (annOf flotsamref04_Words_es) 8 100 Go.Proofs.Tryd.f100.ntmps 0 (cat (bodyOf Go.Proofs.Tryd.f100) [true, true, true, false, true, false, false]) flotsamref04_Words_L0 x) = flotsamref04_Words_s0 := by kernel_rfl
theorem flotsamref04_Words_den : (fun x => denFun TEv (look1 flotsamref04_Words_S) (look1 flotsamref04_Words_fl) (annOf flotsamref04_Words_es) 8 100 Go.Proofs.Tryd.f100 flotsamref04_Words_sm.a flotsamref04_Words_sm.r x) = flotsamref04_Words_sm.F := by kernel_rfl
theorem flotsamref04_Words_ok0 : AEok Go.Proofs.Tryd.prog TEv (look1 flotsamref04_Words_S) (look1 flotsamref04_Words_fl) (annOf flotsamref04_Words_es) ⟨8, 100, 0, 0, flotsamref04_Words_L0⟩ := aeok_of 9223372036854775808 Go.Proofs.Tryd.func100 (by kernel_rfl) flotsamref04_Words_den0 (by kernel_rfl)
theorem flotsamref04_Words_sem : SemOf Go.Proofs.Tryd.prog 100 flotsamref04_Words_sm :=
  semMk teOk (sl := flotsamref04_Words_S) (all_nil) (fl := flotsamref04_Words_fl) (all_nil) (es := flotsamref04_Words_es) Go.Proofs.Tryd.func100 (by kernel_rfl) rfl (all_cons flotsamref04_Words_ok0 (all_nil)) rfl flotsamref04_Words_den

/-! ### flotsam/flotsamref07.Find -/
def flotsamref07_Find_s0r (v1 : Int) (v7 : Int) (v8 : Int) (c0 : Heap) : Option (SRes (.cons cI (.cons cI (.cons cI (.cons cHeap .nil)))) (.cons cI (.cons cI (.cons cHeap .nil))) (.cons cI (.cons cI (.cons .bool .nil)))) :=
  bif decide (0 ≤ v7) then
    bif decide (v7 < (c0.2.1.length : Int)) then
      (flotsamref04_Blocks ((c0.2.1.getD v7.toNat (0, 0, 0, ())).2.1, ())).bind fun y1 =>
      bif decide (v8 < y1.1) then
        bif decide (0 ≤ v7) then
          bif decide (v7 < (c0.2.1.length : Int)) then
            (flotsamref04_Words ((c0.2.1.getD v7.toNat (0, 0, 0, ())).2.1, ())).bind fun y2 =>
            bif (wi64 ((wi64 (32 * v7)) + (wi64 (v8 * y2.1)))) == v1 then
              some (.fin (.ret (v7, v8, true, ())))
            else
            some (.next (v1, v7, wi64 (v8 + 1), c0, ()))
          else none
        else none
      else
      some (.fin (.out (v1, v7, c0, ())))
    else none
  else none
def flotsamref07_Find_s0 (x : Int × Int × Int × Heap × Unit) : Option (SRes (.cons cI (.cons cI (.cons cI (.cons cHeap .nil)))) (.cons cI (.cons cI (.cons cHeap .nil))) (.cons cI (.cons cI (.cons .bool .nil)))) := flotsamref07_Find_s0r x.1 x.2.1 x.2.2.1 x.2.2.2.1
def flotsamref07_Find_l0 (x : Int × Int × Int × Heap × Unit) : Option (LRes (.cons cI (.cons cI (.cons cHeap .nil))) (.cons cI (.cons cI (.cons .bool .nil)))) := iterL (h := (.cons cI (.cons cI (.cons cI (.cons cHeap .nil))))) (o := (.cons cI (.cons cI (.cons cHeap .nil)))) (r := (.cons cI (.cons cI (.cons .bool .nil)))) flotsamref07_Find_s0 9223372036854775808 x
def flotsamref07_Find_s1r (v1 : Int) (v7 : Int) (c0 : Heap) : Option (SRes (.cons cI (.cons cI (.cons cHeap .nil))) .nil (.cons cI (.cons cI (.cons .bool .nil)))) :=
  bif decide (v7 < (c0.2.1.length : Int)) then
    bif decide (0 ≤ v7) then
      bif decide (v7 < (c0.2.1.length : Int)) then
        bif (c0.2.1.getD v7.toNat (0, 0, 0, ())).1 == 0 then
          some (.next (v1, wi64 (v7 + 1), c0, ()))
        else
        (flotsamref07_Find_l0 (v1, v7, 0, c0, ())).bind fun s3 => match s3 with
        | .out s3 =>
          some (.next (s3.1, wi64 (s3.2.1 + 1), s3.2.2.1, ()))
        | .ret s3 =>
          some (.fin (.ret (s3.1, s3.2.1, s3.2.2.1, ())))
      else none
    else none
  else
  some (.fin (.out ()))
def flotsamref07_Find_s1 (x : Int × Int × Heap × Unit) : Option (SRes (.cons cI (.cons cI (.cons cHeap .nil))) .nil (.cons cI (.cons cI (.cons .bool .nil)))) := flotsamref07_Find_s1r x.1 x.2.1 x.2.2.1
def flotsamref07_Find_l1 (x : Int × Int × Heap × Unit) : Option (LRes .nil (.cons cI (.cons cI (.cons .bool .nil)))) := iterL (h := (.cons cI (.cons cI (.cons cHeap .nil)))) (o := .nil) (r := (.cons cI (.cons cI (.cons .bool .nil)))) flotsamref07_Find_s1 9223372036854775808 x
def flotsamref07_Find_r (a0 : Heap) (a1 : Int) : Option (Int × Int × Bool × Unit) :=
  (flotsamref07_Find_l1 (a1, 0, a0, ())).bind fun s4 => match s4 with
  | .out s4 =>
    some (0, 0, false, ())
  | .ret s4 =>
    some (s4.1, s4.2.1, s4.2.2.1, ())
def flotsamref07_Find (x : Heap × Int × Unit) : Option (Int × Int × Bool × Unit) := flotsamref07_Find_r x.1 x.2.1
noncomputable def flotsamref07_Find_sm : Sum := ⟨(.cons cHeap (.cons cI .nil)), (.cons (.d cI) (.cons (.d cI) (.cons (.d .bool) .nil))), flotsamref07_Find⟩
noncomputable def flotsamref07_Find_L0 : LoopSum := { hc := ⟨[], [1, 2, 7, 8], [], [], [0], [], 288⟩, h := ⟨[(1, (.d cI)), (2, (.pvar 0 [])), (7, (.d cI)), (8, (.d cI))], [(0, (.d cHeap))], [], 288⟩, xid := 2, oc := ⟨[], [1, 2, 7], [], [], [0], [], 288⟩, o := ⟨[(1, (.d cI)), (2, (.pvar 0 [])), (7, (.d cI))], [(0, (.d cHeap))], [], 288⟩, rc := ⟨[], [4, 5, 6], [], [], [], [], 288⟩, r := ⟨[(4, (.d cI)), (5, (.d cI)), (6, (.d .bool))], [], [], 288⟩, F := flotsamref07_Find_l0 }
noncomputable def flotsamref07_Find_L1 : LoopSum := { hc := ⟨[], [1, 2, 7], [], [], [0], [], 80⟩, h := ⟨[(1, (.d cI)), (2, (.pvar 0 [])), (7, (.d cI))], [(0, (.d cHeap))], [], 80⟩, xid := 0, oc := ⟨[], [], [], [], [], [], 80⟩, o := ⟨[], [], [], 80⟩, rc := ⟨[], [4, 5, 6], [], [], [], [], 80⟩, r := ⟨[(4, (.d cI)), (5, (.d cI)), (6, (.d .bool))], [], [], 80⟩, F := flotsamref07_Find_l1 }
noncomputable def flotsamref07_Find_S : List (Nat × Sum) := [(99, flotsamref04_Blocks_sm), (100, flotsamref04_Words_sm)]
noncomputable def flotsamref07_Find_fl : List (Nat × Func) := []
noncomputable def flotsamref07_Find_es : List AE := [⟨8, 48, 0, 2, flotsamref07_Find_L0⟩, ⟨8, 48, 0, 0, flotsamref07_Find_L1⟩]
theorem flotsamref07_Find_den0 : (fun x => denStep TEv (look1 flotsamref07_Find_S) (look1 flotsamref07_Find_fl) (annOf flotsamref07_Find_es) 8 48 Go.Proofs.Tryd.f48.ntmps 0 (cat (bodyOf Go.Proofs.Tryd.f48) [true, false, true, false, false, true, false, false, true, true, false, false]) flotsamref07_Find_L0 x) = flotsamref07_Find_s0 := by kernel_rfl
theorem flotsamref07_Find_den1 : (fun x => denStep TEv (look1 flotsamref07_Find_S) (look1 flotsamref07_Find_fl) (annOf flotsamref07_Find_es) 8 48 Go.Proofs.Tryd.f48.ntmps 0 (cat (bodyOf Go.Proofs.Tryd.f48) [true, false, true, false, false]) flotsamref07_Find_L1 x) = flotsamref07_Find_s1 := by kernel_rfl
theorem flotsamref07_Find_den : (fun x => denFun TEv (look1 flotsamref07_Find_S) (look1 flotsamref07_Find_fl) (annOf flotsamref07_Find_es) 8 48 Go.Proofs.Tryd.f48 flotsamref07_Find_sm.a flotsamref07_Find_sm.r x) = flotsamref07_Find_sm.F := by kernel_rfl
theorem flotsamref07_Find_ok0 : AEok Go.Proofs.Tryd.prog TEv (look1 flotsamref07_Find_S) (look1 flotsamref07_Find_fl) (annOf flotsamref07_Find_es) ⟨8, 48, 0, 2, flotsamref07_Find_L0⟩ := aeok_of 9223372036854775808 Go.Proofs.Tryd.func48 (by kernel_rfl) flotsamref07_Find_den0 (by kernel_rfl)
theorem flotsamref07_Find_ok1 : AEok Go.Proofs.Tryd.prog TEv (look1 flotsamref07_Find_S) (look1 flotsamref07_Find_fl) (annOf flotsamref07_Find_es) ⟨8, 48, 0, 0, flotsamref07_Find_L1⟩ := aeok_of 9223372036854775808 Go.Proofs.Tryd.func48 (by kernel_rfl) flotsamref07_Find_den1 (by kernel_rfl)
theorem flotsamref07_Find_sem : SemOf Go.Proofs.Tryd.prog 48 flotsamref07_Find_sm :=
  semMk teOk (sl := flotsamref07_Find_S) (all_cons flotsamref04_Blocks_sem (all_cons flotsamref04_Words_sem all_nil)) (fl := flotsamref07_Find_fl) (all_nil) (es := flotsamref07_Find_es) Go.Proofs.Tryd.func48 (by kernel_rfl) rfl (all_cons flotsamref07_Find_ok0 (all_cons flotsamref07_Find_ok1 (all_nil))) rfl flotsamref07_Find_den
end Go.Proofs.YtdfhopakojmjkaaDoor.Dfk
