/- What functions come to. Printed by a program of this session. -/
import Derived.Test.YtdfhopakojmjkaaDoorDenFow
namespace Go.Proofs.YtdfhopakojmjkaaDoor.Den
open Go
set_option maxRecDepth 100000
set_option linter.unusedVariables false
/-! ### flotsam/word.May -/
def word_May_r (a0 : Val) : Option (Bool × Unit) :=
  bif a0.1 == 0 then
    some (a0.2.1 == 0, ())
  else
  bif a0.1 == 1 then
    some (decide (a0.2.1 ≥ 0), ())
  else
  bif a0.1 == 2 then
    bif decide (a0.2.1 ≥ 0) then
      some (decide (a0.2.1 < 9223372036854775807), ())
    else
    some (false, ())
  else
  some (false, ())
def word_May (x : Val × Unit) : Option (Bool × Unit) := word_May_r x.1
noncomputable def word_May_sm : Sum := ⟨(.cons cVal .nil), (.cons (.d .bool) .nil), word_May⟩
noncomputable def word_May_S : List (Nat × Sum) := []
noncomputable def word_May_fl : List (Nat × Func) := []
noncomputable def word_May_es : List AE := []
theorem word_May_den : (fun x => denFun TEv (look1 word_May_S) (look1 word_May_fl) (annOf word_May_es) 8 144 Go.Proofs.Tryd.f144 word_May_sm.a word_May_sm.r x) = word_May_sm.F := by kernel_rfl
theorem word_May_sem : SemOf Go.Proofs.Tryd.prog 144 word_May_sm :=
  semMk teOk (sl := word_May_S) (all_nil) (fl := word_May_fl) (all_nil) (es := word_May_es) Go.Proofs.Tryd.func144 (by kernel_rfl) rfl (rng_none (by kernel_rfl) (by kernel_rfl)) (all_nil) rfl word_May_den

/-! ### flotsam/word.Put -/
def word_Put_r (a0 : Val) : Option (Int × Bool × Unit) :=
  (word_May (a0, ())).bind fun y1 =>
  bif !y1.1 then
    some (0, false, ())
  else
  bif a0.1 == 1 then
    some (bitsI .or .u64 (shiftI true .u64 (wu64 a0.2.1) 1) 1, true, ())
  else
  bif a0.1 == 2 then
    some (shiftI true .u64 (wu64 (wi64 (a0.2.1 + 1))) 1, true, ())
  else
  some (0, true, ())
def word_Put (x : Val × Unit) : Option (Int × Bool × Unit) := word_Put_r x.1
noncomputable def word_Put_sm : Sum := ⟨(.cons cVal .nil), (.cons (.d (.int .u64)) (.cons (.d .bool) .nil)), word_Put⟩
noncomputable def word_Put_S : List (Nat × Sum) := [(144, word_May_sm)]
noncomputable def word_Put_fl : List (Nat × Func) := []
noncomputable def word_Put_es : List AE := []
theorem word_Put_den : (fun x => denFun TEv (look1 word_Put_S) (look1 word_Put_fl) (annOf word_Put_es) 8 83 Go.Proofs.Tryd.f83 word_Put_sm.a word_Put_sm.r x) = word_Put_sm.F := by kernel_rfl
theorem word_Put_sem : SemOf Go.Proofs.Tryd.prog 83 word_Put_sm :=
  semMk teOk (sl := word_Put_S) (all_cons word_May_sem all_nil) (fl := word_Put_fl) (all_nil) (es := word_Put_es) Go.Proofs.Tryd.func83 (by kernel_rfl) rfl (rng_none (by kernel_rfl) (by kernel_rfl)) (all_nil) rfl word_Put_den

/-! ### flotsam/object.Set -/
def object_Set_r (a0 : Heap) (a1 : Int) (a2 : Int) (a3 : Val) : Option (Heap × Int × Unit) :=
  (object_place (a0, a1, a2, ())).bind fun y1 =>
  bif y1.2.1 != 0 then
    some (a0, y1.2.1, ())
  else
  (word_Put (a3, ())).bind fun y2 =>
  bif !y2.2.1 then
    some (a0, 1, ())
  else
  (object_with (a0, y1.1, y2.1, ())).bind fun y3 =>
  some ((y3.1.1, y3.1.2.1, y3.1.2.2), 0, ())
def object_Set (x : Heap × Int × Int × Val × Unit) : Option (Heap × Int × Unit) := object_Set_r x.1 x.2.1 x.2.2.1 x.2.2.2.1
noncomputable def object_Set_sm : Sum := ⟨(.cons cHeap (.cons cI (.cons cI (.cons cVal .nil)))), (.cons (.d cHeap) (.cons (.d cI) .nil)), object_Set⟩
noncomputable def object_Set_S : List (Nat × Sum) := [(82, object_place_sm), (83, word_Put_sm), (84, object_with_sm)]
noncomputable def object_Set_fl : List (Nat × Func) := []
noncomputable def object_Set_es : List AE := []
theorem object_Set_den : (fun x => denFun TEv (look1 object_Set_S) (look1 object_Set_fl) (annOf object_Set_es) 8 36 Go.Proofs.Tryd.f36 object_Set_sm.a object_Set_sm.r x) = object_Set_sm.F := by kernel_rfl
theorem object_Set_sem : SemOf Go.Proofs.Tryd.prog 36 object_Set_sm :=
  semMk teOk (sl := object_Set_S) (all_cons object_place_sem (all_cons word_Put_sem (all_cons object_with_sem all_nil))) (fl := object_Set_fl) (all_nil) (es := object_Set_es) Go.Proofs.Tryd.func36 (by kernel_rfl) rfl (rng_none (by kernel_rfl) (by kernel_rfl)) (all_nil) rfl object_Set_den

/-! ### flotsam/object.Set -/
def object_Set_o_r (a0 : Heap) (a1 : Int) (a2 : Int) (a3 : Val) : Option (Heap × Int × Unit) :=
  (object_place (a0, a1, a2, ())).bind fun y1 =>
  bif y1.2.1 != 0 then none else
  (word_Put (a3, ())).bind fun y2 =>
  bif !y2.2.1 then none else
  (object_with (a0, y1.1, y2.1, ())).bind fun y3 =>
  some ((y3.1.1, y3.1.2.1, y3.1.2.2), 0, ())
def object_Set_o (x : Heap × Int × Int × Val × Unit) : Option (Heap × Int × Unit) := object_Set_o_r x.1 x.2.1 x.2.2.1 x.2.2.2.1
noncomputable def object_Set_o_sm : Sum := ⟨(.cons cHeap (.cons cI (.cons cI (.cons cVal .nil)))), (.cons (.cons (.own (.int .u64)) (.cons (.own cSpan) (.d (.cons .bool .nil)))) (.cons (.d cI) .nil)), object_Set_o⟩
noncomputable def object_Set_o_S : List (Nat × Sum) := [(82, object_place_sm), (83, word_Put_sm), (84, object_with_sm)]
noncomputable def object_Set_o_fl : List (Nat × Func) := []
noncomputable def object_Set_o_es : List AE := []
theorem object_Set_o_den : (fun x => denFun TEv (look1 object_Set_o_S) (look1 object_Set_o_fl) (annOf object_Set_o_es) 8 36 Go.Proofs.Tryd.f36 object_Set_o_sm.a object_Set_o_sm.r x) = object_Set_o_sm.F := by kernel_rfl
theorem object_Set_o_sem : SemOf Go.Proofs.Tryd.prog 36 object_Set_o_sm :=
  semMk teOk (sl := object_Set_o_S) (all_cons object_place_sem (all_cons word_Put_sem (all_cons object_with_sem all_nil))) (fl := object_Set_o_fl) (all_nil) (es := object_Set_o_es) Go.Proofs.Tryd.func36 (by kernel_rfl) rfl (rng_none (by kernel_rfl) (by kernel_rfl)) (all_nil) rfl object_Set_o_den

/-! ### flotsam/object.Set -/
def object_Set_n_r (a0 : Heap) (a1 : Int) (a2 : Int) (a3 : Val) : Option (Unit × Int × Unit) :=
  (object_place (a0, a1, a2, ())).bind fun y1 =>
  bif y1.2.1 != 0 then
    some ((), y1.2.1, ())
  else
  (word_Put (a3, ())).bind fun y2 =>
  bif !y2.2.1 then
    some ((), 1, ())
  else
  (object_with (a0, y1.1, y2.1, ())).bind fun y3 =>
  some ((), 0, ())
def object_Set_n (x : Heap × Int × Int × Val × Unit) : Option (Unit × Int × Unit) := object_Set_n_r x.1 x.2.1 x.2.2.1 x.2.2.2.1
noncomputable def object_Set_n_sm : Sum := ⟨(.cons cHeap (.cons cI (.cons cI (.cons cVal .nil)))), (.cons (.no cHeap) (.cons (.d cI) .nil)), object_Set_n⟩
noncomputable def object_Set_n_S : List (Nat × Sum) := [(82, object_place_sm), (83, word_Put_sm), (84, object_with_sm)]
noncomputable def object_Set_n_fl : List (Nat × Func) := []
noncomputable def object_Set_n_es : List AE := []
theorem object_Set_n_den : (fun x => denFun TEv (look1 object_Set_n_S) (look1 object_Set_n_fl) (annOf object_Set_n_es) 8 36 Go.Proofs.Tryd.f36 object_Set_n_sm.a object_Set_n_sm.r x) = object_Set_n_sm.F := by kernel_rfl
theorem object_Set_n_sem : SemOf Go.Proofs.Tryd.prog 36 object_Set_n_sm :=
  semMk teOk (sl := object_Set_n_S) (all_cons object_place_sem (all_cons word_Put_sem (all_cons object_with_sem all_nil))) (fl := object_Set_n_fl) (all_nil) (es := object_Set_n_es) Go.Proofs.Tryd.func36 (by kernel_rfl) rfl (rng_none (by kernel_rfl) (by kernel_rfl)) (all_nil) rfl object_Set_n_den


/-! ### flotsam/object.Paint -/
def object_Paint_o_r (a0 : Heap) (a1 : Int) : Option (Heap × Bool × Unit) :=
  (object_Get (a0, a1, ())).bind fun y1 =>
  bif !y1.2.1 then none else
  (header_Put ((y1.1.1, a0.2.2.1, y1.1.2.2.1, y1.1.2.2.2.1, ()), ())).bind fun y2 =>
  (object_with (a0, a1, y2.1, ())).bind fun y3 =>
  some ((y3.1.1, y3.1.2.1, y3.1.2.2), true, ())
def object_Paint_o (x : Heap × Int × Unit) : Option (Heap × Bool × Unit) := object_Paint_o_r x.1 x.2.1
noncomputable def object_Paint_o_sm : Sum := ⟨(.cons cHeap (.cons cI .nil)), (.cons (.cons (.own (.int .u64)) (.cons (.own cSpan) (.d (.cons .bool .nil)))) (.cons (.d .bool) .nil)), object_Paint_o⟩
noncomputable def object_Paint_o_S : List (Nat × Sum) := [(41, object_Get_sm), (84, object_with_sm), (85, header_Put_sm)]
noncomputable def object_Paint_o_fl : List (Nat × Func) := []
noncomputable def object_Paint_o_es : List AE := []
theorem object_Paint_o_den : (fun x => denFun TEv (look1 object_Paint_o_S) (look1 object_Paint_o_fl) (annOf object_Paint_o_es) 8 37 Go.Proofs.Tryd.f37 object_Paint_o_sm.a object_Paint_o_sm.r x) = object_Paint_o_sm.F := by kernel_rfl
theorem object_Paint_o_sem : SemOf Go.Proofs.Tryd.prog 37 object_Paint_o_sm :=
  semMk teOk (sl := object_Paint_o_S) (all_cons object_Get_sem (all_cons object_with_sem (all_cons header_Put_sem all_nil))) (fl := object_Paint_o_fl) (all_nil) (es := object_Paint_o_es) Go.Proofs.Tryd.func37 (by kernel_rfl) rfl (rng_none (by kernel_rfl) (by kernel_rfl)) (all_nil) rfl object_Paint_o_den

/-! ### flotsam/object.Paint -/
def object_Paint_n_r (a0 : Heap) (a1 : Int) : Option (Unit × Bool × Unit) :=
  (object_Get (a0, a1, ())).bind fun y1 =>
  bif !y1.2.1 then
    some ((), false, ())
  else
  (header_Put ((y1.1.1, a0.2.2.1, y1.1.2.2.1, y1.1.2.2.2.1, ()), ())).bind fun y2 =>
  (object_with (a0, a1, y2.1, ())).bind fun y3 =>
  some ((), true, ())
def object_Paint_n (x : Heap × Int × Unit) : Option (Unit × Bool × Unit) := object_Paint_n_r x.1 x.2.1
noncomputable def object_Paint_n_sm : Sum := ⟨(.cons cHeap (.cons cI .nil)), (.cons (.no cHeap) (.cons (.d .bool) .nil)), object_Paint_n⟩
noncomputable def object_Paint_n_S : List (Nat × Sum) := [(41, object_Get_sm), (84, object_with_sm), (85, header_Put_sm)]
noncomputable def object_Paint_n_fl : List (Nat × Func) := []
noncomputable def object_Paint_n_es : List AE := []
theorem object_Paint_n_den : (fun x => denFun TEv (look1 object_Paint_n_S) (look1 object_Paint_n_fl) (annOf object_Paint_n_es) 8 37 Go.Proofs.Tryd.f37 object_Paint_n_sm.a object_Paint_n_sm.r x) = object_Paint_n_sm.F := by kernel_rfl
theorem object_Paint_n_sem : SemOf Go.Proofs.Tryd.prog 37 object_Paint_n_sm :=
  semMk teOk (sl := object_Paint_n_S) (all_cons object_Get_sem (all_cons object_with_sem (all_cons header_Put_sem all_nil))) (fl := object_Paint_n_fl) (all_nil) (es := object_Paint_n_es) Go.Proofs.Tryd.func37 (by kernel_rfl) rfl (rng_none (by kernel_rfl) (by kernel_rfl)) (all_nil) rfl object_Paint_n_den

/-! ### flotsam/class.Blocks -/
def class_Blocks_r (a0 : Int) : Option (Int × Unit) :=
  (class_is (a0, ())).bind fun y1 =>
  bif !y1.1 then
    some (0, ())
  else
  bif decide (0 ≤ a0) then
    bif decide (a0 < 4) then
      bif (([2, 4, 8, 16] : List Int).getD a0.toNat 0) == 0 then none else
      some (wi64 ((32 : Int).tdiv (([2, 4, 8, 16] : List Int).getD a0.toNat 0)), ())
    else none
  else none
def class_Blocks (x : Int × Unit) : Option (Int × Unit) := class_Blocks_r x.1
noncomputable def class_Blocks_sm : Sum := ⟨(.cons cI .nil), (.cons (.d cI) .nil), class_Blocks⟩
noncomputable def class_Blocks_S : List (Nat × Sum) := [(152, class_is_sm)]
noncomputable def class_Blocks_fl : List (Nat × Func) := []
noncomputable def class_Blocks_es : List AE := []
theorem class_Blocks_den : (fun x => denFun TEv (look1 class_Blocks_S) (look1 class_Blocks_fl) (annOf class_Blocks_es) 8 147 Go.Proofs.Tryd.f147 class_Blocks_sm.a class_Blocks_sm.r x) = class_Blocks_sm.F := by kernel_rfl
theorem class_Blocks_sem : SemOf Go.Proofs.Tryd.prog 147 class_Blocks_sm :=
  semMk teOk (sl := class_Blocks_S) (all_cons class_is_sem all_nil) (fl := class_Blocks_fl) (all_nil) (es := class_Blocks_es) Go.Proofs.Tryd.func147 (by kernel_rfl) rfl (rng_none (by kernel_rfl) (by kernel_rfl)) (all_nil) rfl class_Blocks_den

/-! ### flotsam/object.List -/
def object_List_s0r (v3 : Int) (v10 : List Span) (v11 : Int) (v12 : Int) (v22 : Int) (v23 : Int) (c80 : Heap) (c273 : Span) (r433 : List Int) : Option (SRes (.cons cI (.cons (.sl cSpan) (.cons cI (.cons cI (.cons cI (.cons cI (.cons cHeap (.cons cSpan (.cons (.sl cI) .nil))))))))) (.cons (.sl cSpan) (.cons cI (.cons cI (.cons cHeap (.cons (.sl cI) .nil))))) .nil) :=
  bif decide (v23 < v22) then
    (class_Words (c273.2.1, ())).bind fun y2 =>
    (object_Get (c80, wi64 ((wi64 (v3 * 32)) + (wi64 (v23 * y2.1))), ())).bind fun y3 =>
    bif y3.2.1 then
      bif decide ((r433.length + 1) * 8 ≤ 140737488355328) then
        some (.next (v3, v10, v11, v12, v22, wi64 (v23 + 1), c80, c273, r433 ++ [wi64 ((wi64 (v3 * 32)) + (wi64 (v23 * y2.1)))], ()))
      else none
    else
    some (.next (v3, v10, v11, v12, v22, wi64 (v23 + 1), c80, c273, r433, ()))
  else
  some (.fin (.out (v10, v11, v12, c80, r433, ())))
def object_List_s0 (x : Int × (List Span) × Int × Int × Int × Int × Heap × Span × (List Int) × Unit) : Option (SRes (.cons cI (.cons (.sl cSpan) (.cons cI (.cons cI (.cons cI (.cons cI (.cons cHeap (.cons cSpan (.cons (.sl cI) .nil))))))))) (.cons (.sl cSpan) (.cons cI (.cons cI (.cons cHeap (.cons (.sl cI) .nil))))) .nil) := object_List_s0r x.1 x.2.1 x.2.2.1 x.2.2.2.1 x.2.2.2.2.1 x.2.2.2.2.2.1 x.2.2.2.2.2.2.1 x.2.2.2.2.2.2.2.1 x.2.2.2.2.2.2.2.2.1
def object_List_l0 (x : Int × (List Span) × Int × Int × Int × Int × Heap × Span × (List Int) × Unit) : Option (LRes (.cons (.sl cSpan) (.cons cI (.cons cI (.cons cHeap (.cons (.sl cI) .nil))))) .nil) := iterL (h := (.cons cI (.cons (.sl cSpan) (.cons cI (.cons cI (.cons cI (.cons cI (.cons cHeap (.cons cSpan (.cons (.sl cI) .nil)))))))))) (o := (.cons (.sl cSpan) (.cons cI (.cons cI (.cons cHeap (.cons (.sl cI) .nil)))))) (r := .nil) object_List_s0 9223372036854775808 x
def object_List_s1r (v10 : List Span) (v11 : Int) (v12 : Int) (c80 : Heap) (r208 : List Int) : Option (SRes (.cons (.sl cSpan) (.cons cI (.cons cI (.cons cHeap (.cons (.sl cI) .nil))))) (.cons (.sl cI) .nil) .nil) :=
  bif decide (v12 < v11) then
    bif decide (0 ≤ v12) then
      bif decide (v12 < (v10.length : Int)) then
        bif (v10.getD v12.toNat (0, 0, 0, ())).1 == 0 then
          some (.next (v10, v11, wi64 (v12 + 1), c80, r208, ()))
        else
        (class_Blocks ((v10.getD v12.toNat (0, 0, 0, ())).2.1, ())).bind fun y1 =>
        (object_List_l0 (v12, v10, v11, v12, y1.1, 0, c80, v10.getD v12.toNat (0, 0, 0, ()), r208, ())).bind fun s4 => match s4 with
        | .out s4 =>
          some (.next (s4.1, s4.2.1, wi64 (s4.2.2.1 + 1), s4.2.2.2.1, s4.2.2.2.2.1, ()))
        | .ret s4 =>
          none
      else none
    else none
  else
  some (.fin (.out (r208, ())))
def object_List_s1 (x : (List Span) × Int × Int × Heap × (List Int) × Unit) : Option (SRes (.cons (.sl cSpan) (.cons cI (.cons cI (.cons cHeap (.cons (.sl cI) .nil))))) (.cons (.sl cI) .nil) .nil) := object_List_s1r x.1 x.2.1 x.2.2.1 x.2.2.2.1 x.2.2.2.2.1
def object_List_l1 (x : (List Span) × Int × Int × Heap × (List Int) × Unit) : Option (LRes (.cons (.sl cI) .nil) .nil) := iterL (h := (.cons (.sl cSpan) (.cons cI (.cons cI (.cons cHeap (.cons (.sl cI) .nil)))))) (o := (.cons (.sl cI) .nil)) (r := .nil) object_List_s1 9223372036854775808 x
def object_List_r (a0 : Heap) : Option ((List Int) × Unit) :=
  (object_List_l1 (a0.2.1, (a0.2.1.length : Int), 0, a0, [], ())).bind fun s5 => match s5 with
  | .out s5 =>
    some (s5.1, ())
  | .ret s5 =>
    none
def object_List (x : Heap × Unit) : Option ((List Int) × Unit) := object_List_r x.1
noncomputable def object_List_sm : Sum := ⟨(.cons cHeap .nil), (.cons (.own cI) .nil), object_List⟩
noncomputable def object_List_L0 : LoopSum := { hc := ⟨[], [0, 1, 3, 4, 10, 11, 12, 22, 23], [(.key 32 [], cI)], [], [32, 80, 273], [], 433⟩, h := ⟨[(0, (.fn 40 (.cons (.pvar 32 []) .nil) .yld)), (1, (.pvar 80 [])), (3, (.d cI)), (4, (.pvar 273 [])), (10, (.d (.sl cSpan))), (11, (.d cI)), (12, (.d cI)), (22, (.d cI)), (23, (.d cI))], [(32, (.row 433)), (80, (.d cHeap)), (273, (.d cSpan))], [(433, cI, true)], 434⟩, xid := 2, oc := ⟨[], [0, 1, 10, 11, 12], [(.key 32 [], cI)], [], [32, 80], [], 433⟩, o := ⟨[(0, (.fn 40 (.cons (.pvar 32 []) .nil) .yld)), (1, (.pvar 80 [])), (10, (.d (.sl cSpan))), (11, (.d cI)), (12, (.d cI))], [(32, (.row 433)), (80, (.d cHeap))], [(433, cI, true)], 434⟩, rc := ⟨[], [], [], [], [433], [], 433⟩, r := ⟨[], [], [], 433⟩, F := object_List_l0 }
noncomputable def object_List_L1 : LoopSum := { hc := ⟨[], [0, 1, 10, 11, 12], [(.key 32 [], cI)], [], [32, 80], [], 208⟩, h := ⟨[(0, (.fn 40 (.cons (.pvar 32 []) .nil) .yld)), (1, (.pvar 80 [])), (10, (.d (.sl cSpan))), (11, (.d cI)), (12, (.d cI))], [(32, (.row 208)), (80, (.d cHeap))], [(208, cI, true)], 209⟩, xid := 0, oc := ⟨[], [], [(.key 32 [], cI)], [], [32], [], 208⟩, o := ⟨[], [(32, (.row 208))], [(208, cI, true)], 209⟩, rc := ⟨[], [], [], [], [208], [], 208⟩, r := ⟨[], [], [], 208⟩, F := object_List_l1 }
noncomputable def object_List_S : List (Nat × Sum) := [(41, object_Get_sm), (102, class_Words_sm), (147, class_Blocks_sm)]
noncomputable def object_List_fl : List (Nat × Func) := [(40, Go.Proofs.Tryd.f40), (90, Go.Proofs.Tryd.f90), (146, Go.Proofs.Tryd.f146)]
noncomputable def object_List_es : List AE := [⟨7, 146, 144, 2, object_List_L0⟩, ⟨7, 146, 144, 0, object_List_L1⟩]
theorem object_List_den0 : (fun x => denStep TEv (look1 object_List_S) (look1 object_List_fl) (annOf object_List_es) 7 146 Go.Proofs.Tryd.f146.ntmps 144 (cat (bodyOf Go.Proofs.Tryd.f146) [true, false, false, true, true, false, false, true, true, true, false, false]) object_List_L0 x) = object_List_s0 := by kernel_rfl
theorem object_List_den1 : (fun x => denStep TEv (look1 object_List_S) (look1 object_List_fl) (annOf object_List_es) 7 146 Go.Proofs.Tryd.f146.ntmps 144 (cat (bodyOf Go.Proofs.Tryd.f146) [true, false, false]) object_List_L1 x) = object_List_s1 := by kernel_rfl
theorem object_List_den : (fun x => denFun TEv (look1 object_List_S) (look1 object_List_fl) (annOf object_List_es) 8 40 Go.Proofs.Tryd.f40 object_List_sm.a object_List_sm.r x) = object_List_sm.F := by kernel_rfl
theorem object_List_ok0 : AEok Go.Proofs.Tryd.prog TEv (look1 object_List_S) (look1 object_List_fl) (annOf object_List_es) ⟨7, 146, 144, 2, object_List_L0⟩ := aeok_of 9223372036854775808 Go.Proofs.Tryd.func146 (by kernel_rfl) object_List_den0 (by kernel_rfl)
theorem object_List_ok1 : AEok Go.Proofs.Tryd.prog TEv (look1 object_List_S) (look1 object_List_fl) (annOf object_List_es) ⟨7, 146, 144, 0, object_List_L1⟩ := aeok_of 9223372036854775808 Go.Proofs.Tryd.func146 (by kernel_rfl) object_List_den1 (by kernel_rfl)
theorem object_List_sem : SemOf Go.Proofs.Tryd.prog 40 object_List_sm :=
  semMk teOk (sl := object_List_S) (all_cons object_Get_sem (all_cons class_Words_sem (all_cons class_Blocks_sem all_nil))) (fl := object_List_fl) (all_cons ⟨⟨Go.Proofs.Tryd.func40, by kernel_rfl⟩, rng_some [3] (by kernel_rfl) (by kernel_rfl)⟩ (all_cons ⟨⟨Go.Proofs.Tryd.func90, by kernel_rfl⟩, rng_none (by kernel_rfl) (by kernel_rfl)⟩ (all_cons ⟨⟨Go.Proofs.Tryd.func146, by kernel_rfl⟩, rng_none (by kernel_rfl) (by kernel_rfl)⟩ (all_nil)))) (es := object_List_es) Go.Proofs.Tryd.func40 (by kernel_rfl) rfl (rng_some [3] (by kernel_rfl) (by kernel_rfl)) (all_cons object_List_ok0 (all_cons object_List_ok1 (all_nil))) rfl object_List_den

/-! ### flotsam/object.Refs -/
def object_Refs_s0r (v1 : Int) (v17 : Int) (v18 : Int) (c0 : Heap) (r240 : List Int) : Option (SRes (.cons cI (.cons cI (.cons cI (.cons cHeap (.cons (.sl cI) .nil))))) (.cons (.sl cI) .nil) .nil) :=
  bif decide (v18 < v17) then
    bif decide (0 ≤ (wi64 ((wi64 (v1 + 1)) + v18))) then
      bif decide ((wi64 ((wi64 (v1 + 1)) + v18)) < (c0.1.length : Int)) then
        (word_Get (c0.1.getD (wi64 ((wi64 (v1 + 1)) + v18)).toNat 0, ())).bind fun y2 =>
        bif y2.1.1 == 2 then
          bif decide ((r240.length + 1) * 8 ≤ 140737488355328) then
            some (.next (v1, v17, wi64 (v18 + 1), c0, r240 ++ [y2.1.2.1], ()))
          else none
        else
        some (.next (v1, v17, wi64 (v18 + 1), c0, r240, ()))
      else none
    else none
  else
  some (.fin (.out (r240, ())))
def object_Refs_s0 (x : Int × Int × Int × Heap × (List Int) × Unit) : Option (SRes (.cons cI (.cons cI (.cons cI (.cons cHeap (.cons (.sl cI) .nil))))) (.cons (.sl cI) .nil) .nil) := object_Refs_s0r x.1 x.2.1 x.2.2.1 x.2.2.2.1 x.2.2.2.2.1
def object_Refs_l0 (x : Int × Int × Int × Heap × (List Int) × Unit) : Option (LRes (.cons (.sl cI) .nil) .nil) := iterL (h := (.cons cI (.cons cI (.cons cI (.cons cHeap (.cons (.sl cI) .nil)))))) (o := (.cons (.sl cI) .nil)) (r := .nil) object_Refs_s0 9223372036854775808 x
def object_Refs_r (a0 : Heap) (a1 : Int) : Option ((List Int) × Unit) :=
  (object_Get (a0, a1, ())).bind fun y1 =>
  (object_Refs_l0 (a1, y1.1.2.2.2.1, 0, a0, [], ())).bind fun s3 => match s3 with
  | .out s3 =>
    some (s3.1, ())
  | .ret s3 =>
    none
def object_Refs (x : Heap × Int × Unit) : Option ((List Int) × Unit) := object_Refs_r x.1 x.2.1
noncomputable def object_Refs_sm : Sum := ⟨(.cons cHeap (.cons cI .nil)), (.cons (.own cI) .nil), object_Refs⟩
noncomputable def object_Refs_L0 : LoopSum := { hc := ⟨[], [1, 2, 5, 17, 18], [(.tmp 5, cI)], [], [0], [], 240⟩, h := ⟨[(1, (.d cI)), (2, (.pvar 0 [])), (5, (.row 240)), (17, (.d cI)), (18, (.d cI))], [(0, (.d cHeap))], [(240, cI, true)], 241⟩, xid := 0, oc := ⟨[], [5], [(.tmp 5, cI)], [], [], [], 240⟩, o := ⟨[(5, (.row 240))], [], [(240, cI, true)], 241⟩, rc := ⟨[], [], [], [], [240], [], 240⟩, r := ⟨[], [], [], 240⟩, F := object_Refs_l0 }
noncomputable def object_Refs_S : List (Nat × Sum) := [(41, object_Get_sm), (92, word_Get_sm)]
noncomputable def object_Refs_fl : List (Nat × Func) := []
noncomputable def object_Refs_es : List AE := [⟨8, 42, 0, 0, object_Refs_L0⟩]
theorem object_Refs_den0 : (fun x => denStep TEv (look1 object_Refs_S) (look1 object_Refs_fl) (annOf object_Refs_es) 8 42 Go.Proofs.Tryd.f42.ntmps 0 (cat (bodyOf Go.Proofs.Tryd.f42) [true, true, true, false, true, false, false]) object_Refs_L0 x) = object_Refs_s0 := by kernel_rfl
theorem object_Refs_den : (fun x => denFun TEv (look1 object_Refs_S) (look1 object_Refs_fl) (annOf object_Refs_es) 8 42 Go.Proofs.Tryd.f42 object_Refs_sm.a object_Refs_sm.r x) = object_Refs_sm.F := by kernel_rfl
theorem object_Refs_ok0 : AEok Go.Proofs.Tryd.prog TEv (look1 object_Refs_S) (look1 object_Refs_fl) (annOf object_Refs_es) ⟨8, 42, 0, 0, object_Refs_L0⟩ := aeok_of 9223372036854775808 Go.Proofs.Tryd.func42 (by kernel_rfl) object_Refs_den0 (by kernel_rfl)
theorem object_Refs_sem : SemOf Go.Proofs.Tryd.prog 42 object_Refs_sm :=
  semMk teOk (sl := object_Refs_S) (all_cons object_Get_sem (all_cons word_Get_sem all_nil)) (fl := object_Refs_fl) (all_nil) (es := object_Refs_es) Go.Proofs.Tryd.func42 (by kernel_rfl) rfl (rng_none (by kernel_rfl) (by kernel_rfl)) (all_cons object_Refs_ok0 (all_nil)) rfl object_Refs_den

/-! ### flotsam/flotsamlaw08.awake -/
def flotsamlaw08_awake_r  : Option (Bool × Unit) :=
  (flotsamref07_Made (2, [(0, 1, 1, ()), (1, 1, 2, ())], ())).bind fun y1 =>
  (object_Set (y1.1, 32, 1, (2, 32, ()), ())).bind fun y2 =>
  (object_Field (y2.1, 32, 1, ())).bind fun y3 =>
  (object_Field (y2.1, 32, 2, ())).bind fun y4 =>
  (object_Field (y2.1, 36, 0, ())).bind fun y5 =>
  (object_Get (y2.1, 32, ())).bind fun y6 =>
  (object_List (y2.1, ())).bind fun y7 =>
  (object_Refs (y2.1, 32, ())).bind fun y8 =>
  (object_Paint ((y2.1.1, y2.1.2.1, true, y2.1.2.2.2), 32, ())).bind fun y9 =>
  bif y2.2.1 == 0 then
    bif (y3.1.1 == 2) && ((y3.1.2.1 == 32) && true) then
      bif y3.2.1 == 0 then
        bif y4.2.1 == 4 then
          bif y5.2.1 == 1 then
            bif y6.2.1 then
              bif y6.1.2.2.2.1 == 2 then
                bif y6.1.2.2.1 == 1 then
                  (flotsamref08_Ints (y7.1, [32], ())).bind fun y10 =>
                  bif y10.1 then
                    (flotsamref08_Ints (y8.1, [32], ())).bind fun y11 =>
                    bif y11.1 then
                      (object_Black ((y2.1.1, y2.1.2.1, true, y2.1.2.2.2), 32, ())).bind fun y12 =>
                      bif !y12.1 then
                        bif y9.2.1 then
                          (object_Black (y9.1, 32, ())).bind fun y13 =>
                          bif y13.1 then
                            (object_Black (y9.1, 36, ())).bind fun y14 =>
                            some (!y14.1, ())
                          else
                          some (false, ())
                        else
                        some (false, ())
                      else
                      some (false, ())
                    else
                    some (false, ())
                  else
                  some (false, ())
                else
                some (false, ())
              else
              some (false, ())
            else
            some (false, ())
          else
          some (false, ())
        else
        some (false, ())
      else
      some (false, ())
    else
    some (false, ())
  else
  some (false, ())
def flotsamlaw08_awake (x : Unit) : Option (Bool × Unit) := flotsamlaw08_awake_r 
noncomputable def flotsamlaw08_awake_sm : Sum := ⟨.nil, (.cons (.d .bool) .nil), flotsamlaw08_awake⟩
noncomputable def flotsamlaw08_awake_S : List (Nat × Sum) := [(26, flotsamref08_Ints_sm), (36, object_Set_sm), (37, object_Paint_sm), (40, object_List_sm), (41, object_Get_sm), (42, object_Refs_sm), (45, flotsamref07_Made_sm), (80, object_Field_sm), (81, object_Black_sm)]
noncomputable def flotsamlaw08_awake_fl : List (Nat × Func) := []
noncomputable def flotsamlaw08_awake_es : List AE := []
theorem flotsamlaw08_awake_den : (fun x => denFun TEv (look1 flotsamlaw08_awake_S) (look1 flotsamlaw08_awake_fl) (annOf flotsamlaw08_awake_es) 8 35 Go.Proofs.Tryd.f35 flotsamlaw08_awake_sm.a flotsamlaw08_awake_sm.r x) = flotsamlaw08_awake_sm.F := by kernel_rfl
theorem flotsamlaw08_awake_sem : SemOf Go.Proofs.Tryd.prog 35 flotsamlaw08_awake_sm :=
  semMk teOk (sl := flotsamlaw08_awake_S) (all_cons flotsamref08_Ints_sem (all_cons object_Set_sem (all_cons object_Paint_sem (all_cons object_List_sem (all_cons object_Get_sem (all_cons object_Refs_sem (all_cons flotsamref07_Made_sem (all_cons object_Field_sem (all_cons object_Black_sem all_nil))))))))) (fl := flotsamlaw08_awake_fl) (all_nil) (es := flotsamlaw08_awake_es) Go.Proofs.Tryd.func35 (by kernel_rfl) rfl (rng_none (by kernel_rfl) (by kernel_rfl)) (all_nil) rfl flotsamlaw08_awake_den

/-! ### flotsam/flotsamref01.May -/
def flotsamref01_May_r (a0 : Val) : Option (Bool × Unit) :=
  bif a0.1 == 0 then
    some (a0.2.1 == 0, ())
  else
  bif a0.1 == 1 then
    some (decide (a0.2.1 ≥ 0), ())
  else
  bif a0.1 == 2 then
    bif decide (a0.2.1 ≥ 0) then
      some (decide (a0.2.1 < 9223372036854775807), ())
    else
    some (false, ())
  else
  some (false, ())
def flotsamref01_May (x : Val × Unit) : Option (Bool × Unit) := flotsamref01_May_r x.1
noncomputable def flotsamref01_May_sm : Sum := ⟨(.cons cVal .nil), (.cons (.d .bool) .nil), flotsamref01_May⟩
noncomputable def flotsamref01_May_S : List (Nat × Sum) := []
noncomputable def flotsamref01_May_fl : List (Nat × Func) := []
noncomputable def flotsamref01_May_es : List AE := []
theorem flotsamref01_May_den : (fun x => denFun TEv (look1 flotsamref01_May_S) (look1 flotsamref01_May_fl) (annOf flotsamref01_May_es) 8 86 Go.Proofs.Tryd.f86 flotsamref01_May_sm.a flotsamref01_May_sm.r x) = flotsamref01_May_sm.F := by kernel_rfl
theorem flotsamref01_May_sem : SemOf Go.Proofs.Tryd.prog 86 flotsamref01_May_sm :=
  semMk teOk (sl := flotsamref01_May_S) (all_nil) (fl := flotsamref01_May_fl) (all_nil) (es := flotsamref01_May_es) Go.Proofs.Tryd.func86 (by kernel_rfl) rfl (rng_none (by kernel_rfl) (by kernel_rfl)) (all_nil) rfl flotsamref01_May_den

/-! ### flotsam/flotsamref01.Put -/
def flotsamref01_Put_r (a0 : Val) : Option (Int × Unit) :=
  bif a0.1 == 0 then
    some (0, ())
  else
  bif a0.1 == 1 then
    some (wu64 ((wu64 (2 * (wu64 a0.2.1))) + 1), ())
  else
  some (wu64 (2 * (wu64 ((wu64 a0.2.1) + 1))), ())
def flotsamref01_Put (x : Val × Unit) : Option (Int × Unit) := flotsamref01_Put_r x.1
noncomputable def flotsamref01_Put_sm : Sum := ⟨(.cons cVal .nil), (.cons (.d (.int .u64)) .nil), flotsamref01_Put⟩
noncomputable def flotsamref01_Put_S : List (Nat × Sum) := []
noncomputable def flotsamref01_Put_fl : List (Nat × Func) := []
noncomputable def flotsamref01_Put_es : List AE := []
theorem flotsamref01_Put_den : (fun x => denFun TEv (look1 flotsamref01_Put_S) (look1 flotsamref01_Put_fl) (annOf flotsamref01_Put_es) 8 88 Go.Proofs.Tryd.f88 flotsamref01_Put_sm.a flotsamref01_Put_sm.r x) = flotsamref01_Put_sm.F := by kernel_rfl
theorem flotsamref01_Put_sem : SemOf Go.Proofs.Tryd.prog 88 flotsamref01_Put_sm :=
  semMk teOk (sl := flotsamref01_Put_S) (all_nil) (fl := flotsamref01_Put_fl) (all_nil) (es := flotsamref01_Put_es) Go.Proofs.Tryd.func88 (by kernel_rfl) rfl (rng_none (by kernel_rfl) (by kernel_rfl)) (all_nil) rfl flotsamref01_Put_den

/-! ### flotsam/flotsamref08.Set -/
def flotsamref08_Set_r (a0 : Heap) (a1 : Int) (a2 : Int) (a3 : Val) : Option (Heap × Int × Unit) :=
  (flotsamref08_Field (a0, a1, a2, ())).bind fun y1 =>
  bif y1.2.1 != 0 then
    some (a0, y1.2.1, ())
  else
  (flotsamref01_May (a3, ())).bind fun y2 =>
  bif !y2.1 then
    some (a0, 1, ())
  else
  (flotsamref01_Put (a3, ())).bind fun y3 =>
  (flotsamref08_with (a0, wi64 ((wi64 (a1 + 1)) + a2), y3.1, ())).bind fun y4 =>
  some ((y4.1.1, y4.1.2.1, y4.1.2.2), 0, ())
def flotsamref08_Set (x : Heap × Int × Int × Val × Unit) : Option (Heap × Int × Unit) := flotsamref08_Set_r x.1 x.2.1 x.2.2.1 x.2.2.2.1
noncomputable def flotsamref08_Set_sm : Sum := ⟨(.cons cHeap (.cons cI (.cons cI (.cons cVal .nil)))), (.cons (.d cHeap) (.cons (.d cI) .nil)), flotsamref08_Set⟩
noncomputable def flotsamref08_Set_S : List (Nat × Sum) := [(75, flotsamref08_Field_sm), (86, flotsamref01_May_sm), (87, flotsamref08_with_sm), (88, flotsamref01_Put_sm)]
noncomputable def flotsamref08_Set_fl : List (Nat × Func) := []
noncomputable def flotsamref08_Set_es : List AE := []
theorem flotsamref08_Set_den : (fun x => denFun TEv (look1 flotsamref08_Set_S) (look1 flotsamref08_Set_fl) (annOf flotsamref08_Set_es) 8 38 Go.Proofs.Tryd.f38 flotsamref08_Set_sm.a flotsamref08_Set_sm.r x) = flotsamref08_Set_sm.F := by kernel_rfl
theorem flotsamref08_Set_sem : SemOf Go.Proofs.Tryd.prog 38 flotsamref08_Set_sm :=
  semMk teOk (sl := flotsamref08_Set_S) (all_cons flotsamref08_Field_sem (all_cons flotsamref01_May_sem (all_cons flotsamref08_with_sem (all_cons flotsamref01_Put_sem all_nil)))) (fl := flotsamref08_Set_fl) (all_nil) (es := flotsamref08_Set_es) Go.Proofs.Tryd.func38 (by kernel_rfl) rfl (rng_none (by kernel_rfl) (by kernel_rfl)) (all_nil) rfl flotsamref08_Set_den

/-! ### flotsam/flotsamlaw08.ObjectKeeps -/
def flotsamlaw08_ObjectKeeps_oo_s0r (v1 : Int) (v2 : Int) (v11 : Int) (v13 : Bool) (v14 : Int) (c0 : Heap) (c16 : Val) (c336 : Bool × Unit) (c496 : Bool × Unit) (c640 : Bool × Unit) (r208 : List Int) (r272 : List Span) (r432 : List Int) (r433 : List Span) (r576 : List Int) (r577 : List Span) : Option (SRes (.cons cI (.cons cI (.cons cI (.cons .bool (.cons cI (.cons cHeap (.cons cVal (.cons (.cons .bool .nil) (.cons (.cons .bool .nil) (.cons (.cons .bool .nil) (.cons (.sl (.int .u64)) (.cons (.sl cSpan) (.cons (.sl (.int .u64)) (.cons (.sl cSpan) (.cons (.sl (.int .u64)) (.cons (.sl cSpan) .nil)))))))))))))))) (.cons cI (.cons cI (.cons cI (.cons .bool (.cons cHeap (.cons cVal (.cons (.cons .bool .nil) (.cons (.cons .bool .nil) (.cons (.cons .bool .nil) (.cons (.sl (.int .u64)) (.cons (.sl cSpan) (.cons (.sl (.int .u64)) (.cons (.sl cSpan) (.cons (.sl (.int .u64)) (.cons (.sl cSpan) .nil))))))))))))))) .nil) :=
  bif decide (v14 < (r208.length : Int)) then
    bif decide (0 ≤ v14) then
      bif decide (v14 < (r208.length : Int)) then
        some (.next (v1, v2, v11, v13, wi64 (v14 + 1), c0, c16, c336, c496, c640, r208.set v14.toNat 3, r272, r432, r433, r576, r577, ()))
      else none
    else none
  else
  some (.fin (.out (v1, v2, v11, v13, c0, c16, c336, c496, c640, r208, r272, r432, r433, r576, r577, ())))
def flotsamlaw08_ObjectKeeps_oo_s0 (x : Int × Int × Int × Bool × Int × Heap × Val × (Bool × Unit) × (Bool × Unit) × (Bool × Unit) × (List Int) × (List Span) × (List Int) × (List Span) × (List Int) × (List Span) × Unit) : Option (SRes (.cons cI (.cons cI (.cons cI (.cons .bool (.cons cI (.cons cHeap (.cons cVal (.cons (.cons .bool .nil) (.cons (.cons .bool .nil) (.cons (.cons .bool .nil) (.cons (.sl (.int .u64)) (.cons (.sl cSpan) (.cons (.sl (.int .u64)) (.cons (.sl cSpan) (.cons (.sl (.int .u64)) (.cons (.sl cSpan) .nil)))))))))))))))) (.cons cI (.cons cI (.cons cI (.cons .bool (.cons cHeap (.cons cVal (.cons (.cons .bool .nil) (.cons (.cons .bool .nil) (.cons (.cons .bool .nil) (.cons (.sl (.int .u64)) (.cons (.sl cSpan) (.cons (.sl (.int .u64)) (.cons (.sl cSpan) (.cons (.sl (.int .u64)) (.cons (.sl cSpan) .nil))))))))))))))) .nil) := flotsamlaw08_ObjectKeeps_oo_s0r x.1 x.2.1 x.2.2.1 x.2.2.2.1 x.2.2.2.2.1 x.2.2.2.2.2.1 x.2.2.2.2.2.2.1 x.2.2.2.2.2.2.2.1 x.2.2.2.2.2.2.2.2.1 x.2.2.2.2.2.2.2.2.2.1 x.2.2.2.2.2.2.2.2.2.2.1 x.2.2.2.2.2.2.2.2.2.2.2.1 x.2.2.2.2.2.2.2.2.2.2.2.2.1 x.2.2.2.2.2.2.2.2.2.2.2.2.2.1 x.2.2.2.2.2.2.2.2.2.2.2.2.2.2.1 x.2.2.2.2.2.2.2.2.2.2.2.2.2.2.2.1
def flotsamlaw08_ObjectKeeps_oo_l0 (x : Int × Int × Int × Bool × Int × Heap × Val × (Bool × Unit) × (Bool × Unit) × (Bool × Unit) × (List Int) × (List Span) × (List Int) × (List Span) × (List Int) × (List Span) × Unit) : Option (LRes (.cons cI (.cons cI (.cons cI (.cons .bool (.cons cHeap (.cons cVal (.cons (.cons .bool .nil) (.cons (.cons .bool .nil) (.cons (.cons .bool .nil) (.cons (.sl (.int .u64)) (.cons (.sl cSpan) (.cons (.sl (.int .u64)) (.cons (.sl cSpan) (.cons (.sl (.int .u64)) (.cons (.sl cSpan) .nil))))))))))))))) .nil) := iterL (h := (.cons cI (.cons cI (.cons cI (.cons .bool (.cons cI (.cons cHeap (.cons cVal (.cons (.cons .bool .nil) (.cons (.cons .bool .nil) (.cons (.cons .bool .nil) (.cons (.sl (.int .u64)) (.cons (.sl cSpan) (.cons (.sl (.int .u64)) (.cons (.sl cSpan) (.cons (.sl (.int .u64)) (.cons (.sl cSpan) .nil))))))))))))))))) (o := (.cons cI (.cons cI (.cons cI (.cons .bool (.cons cHeap (.cons cVal (.cons (.cons .bool .nil) (.cons (.cons .bool .nil) (.cons (.cons .bool .nil) (.cons (.sl (.int .u64)) (.cons (.sl cSpan) (.cons (.sl (.int .u64)) (.cons (.sl cSpan) (.cons (.sl (.int .u64)) (.cons (.sl cSpan) .nil)))))))))))))))) (r := .nil) flotsamlaw08_ObjectKeeps_oo_s0 9223372036854775808 x
def flotsamlaw08_ObjectKeeps_oo_s1r (v1 : Int) (v2 : Int) (v11 : Int) (v13 : Bool) (v15 : Int) (c0 : Heap) (c16 : Val) (c336 : Bool × Unit) (c496 : Bool × Unit) (c640 : Bool × Unit) (r208 : List Int) (r272 : List Span) (r432 : List Int) (r433 : List Span) (r576 : List Int) (r577 : List Span) : Option (SRes (.cons cI (.cons cI (.cons cI (.cons .bool (.cons cI (.cons cHeap (.cons cVal (.cons (.cons .bool .nil) (.cons (.cons .bool .nil) (.cons (.cons .bool .nil) (.cons (.sl (.int .u64)) (.cons (.sl cSpan) (.cons (.sl (.int .u64)) (.cons (.sl cSpan) (.cons (.sl (.int .u64)) (.cons (.sl cSpan) .nil)))))))))))))))) (.cons cI (.cons cI (.cons cI (.cons .bool (.cons cHeap (.cons cVal (.cons (.cons .bool .nil) (.cons (.cons .bool .nil) (.cons (.sl (.int .u64)) (.cons (.sl cSpan) (.cons (.sl (.int .u64)) (.cons (.sl cSpan) .nil)))))))))))) .nil) :=
  bif decide (v15 < (r272.length : Int)) then
    bif decide (0 ≤ v15) then
      bif decide (v15 < (r272.length : Int)) then
        some (.next (v1, v2, v11, v13, wi64 (v15 + 1), c0, c16, c336, c496, c640, r208, r272.set v15.toNat (0, 0, 0, ()), r432, r433, r576, r577, ()))
      else none
    else none
  else
  some (.fin (.out (v1, v2, v11, v13, c0, c16, c496, c640, r432, r433, r576, r577, ())))
def flotsamlaw08_ObjectKeeps_oo_s1 (x : Int × Int × Int × Bool × Int × Heap × Val × (Bool × Unit) × (Bool × Unit) × (Bool × Unit) × (List Int) × (List Span) × (List Int) × (List Span) × (List Int) × (List Span) × Unit) : Option (SRes (.cons cI (.cons cI (.cons cI (.cons .bool (.cons cI (.cons cHeap (.cons cVal (.cons (.cons .bool .nil) (.cons (.cons .bool .nil) (.cons (.cons .bool .nil) (.cons (.sl (.int .u64)) (.cons (.sl cSpan) (.cons (.sl (.int .u64)) (.cons (.sl cSpan) (.cons (.sl (.int .u64)) (.cons (.sl cSpan) .nil)))))))))))))))) (.cons cI (.cons cI (.cons cI (.cons .bool (.cons cHeap (.cons cVal (.cons (.cons .bool .nil) (.cons (.cons .bool .nil) (.cons (.sl (.int .u64)) (.cons (.sl cSpan) (.cons (.sl (.int .u64)) (.cons (.sl cSpan) .nil)))))))))))) .nil) := flotsamlaw08_ObjectKeeps_oo_s1r x.1 x.2.1 x.2.2.1 x.2.2.2.1 x.2.2.2.2.1 x.2.2.2.2.2.1 x.2.2.2.2.2.2.1 x.2.2.2.2.2.2.2.1 x.2.2.2.2.2.2.2.2.1 x.2.2.2.2.2.2.2.2.2.1 x.2.2.2.2.2.2.2.2.2.2.1 x.2.2.2.2.2.2.2.2.2.2.2.1 x.2.2.2.2.2.2.2.2.2.2.2.2.1 x.2.2.2.2.2.2.2.2.2.2.2.2.2.1 x.2.2.2.2.2.2.2.2.2.2.2.2.2.2.1 x.2.2.2.2.2.2.2.2.2.2.2.2.2.2.2.1
def flotsamlaw08_ObjectKeeps_oo_l1 (x : Int × Int × Int × Bool × Int × Heap × Val × (Bool × Unit) × (Bool × Unit) × (Bool × Unit) × (List Int) × (List Span) × (List Int) × (List Span) × (List Int) × (List Span) × Unit) : Option (LRes (.cons cI (.cons cI (.cons cI (.cons .bool (.cons cHeap (.cons cVal (.cons (.cons .bool .nil) (.cons (.cons .bool .nil) (.cons (.sl (.int .u64)) (.cons (.sl cSpan) (.cons (.sl (.int .u64)) (.cons (.sl cSpan) .nil)))))))))))) .nil) := iterL (h := (.cons cI (.cons cI (.cons cI (.cons .bool (.cons cI (.cons cHeap (.cons cVal (.cons (.cons .bool .nil) (.cons (.cons .bool .nil) (.cons (.cons .bool .nil) (.cons (.sl (.int .u64)) (.cons (.sl cSpan) (.cons (.sl (.int .u64)) (.cons (.sl cSpan) (.cons (.sl (.int .u64)) (.cons (.sl cSpan) .nil))))))))))))))))) (o := (.cons cI (.cons cI (.cons cI (.cons .bool (.cons cHeap (.cons cVal (.cons (.cons .bool .nil) (.cons (.cons .bool .nil) (.cons (.sl (.int .u64)) (.cons (.sl cSpan) (.cons (.sl (.int .u64)) (.cons (.sl cSpan) .nil))))))))))))) (r := .nil) flotsamlaw08_ObjectKeeps_oo_s1 9223372036854775808 x
def flotsamlaw08_ObjectKeeps_oo_r (a0 : Heap) (a1 : Int) (a2 : Int) (a3 : Val) : Option (Bool × Unit) :=
  (flotsamlaw08_awake ()).bind fun y1 =>
  bif !y1.1 then
    (flotsamlaw08_awake ()).bind fun y2 =>
    some (y2.1, ())
  else
  (flotsamref07_Form (a0, ())).bind fun y3 =>
  bif !y3.1 then
    (flotsamlaw08_awake ()).bind fun y4 =>
    some (y4.1, ())
  else
  bif decide ((0 + a0.1.length) * 8 ≤ 140737488355328) then
    bif decide ((0 + a0.2.1.length) * 24 ≤ 140737488355328) then
      (object_Set_o ((a0.1, a0.2.1, a0.2.2.1, ()), a1, a2, a3, ())).bind fun y5 =>
      (object_Paint_o ((a0.1, a0.2.1, a0.2.2.1, ()), a1, ())).bind fun y6 =>
      (flotsamref07_Same ((a0.1, a0.2.1, a0.2.2.1, ()), a0, ())).bind fun y7 =>
      bif !y7.1 then
        some (false, ())
      else
      (flotsamlaw08_ObjectKeeps_oo_l0 (a1, a2, y5.2.1, y6.2.1, 0, a0, a3, (a0.2.2.1, ()), y5.1.2.2, y6.1.2.2, a0.1, a0.2.1, y5.1.1, y5.1.2.1, y6.1.1, y6.1.2.1, ())).bind fun s8 => match s8 with
      | .out s8 =>
        (flotsamlaw08_ObjectKeeps_oo_l1 (s8.1, s8.2.1, s8.2.2.1, s8.2.2.2.1, 0, s8.2.2.2.2.1, s8.2.2.2.2.2.1, s8.2.2.2.2.2.2.1, s8.2.2.2.2.2.2.2.1, s8.2.2.2.2.2.2.2.2.1, s8.2.2.2.2.2.2.2.2.2.1, s8.2.2.2.2.2.2.2.2.2.2.1, s8.2.2.2.2.2.2.2.2.2.2.2.1, s8.2.2.2.2.2.2.2.2.2.2.2.2.1, s8.2.2.2.2.2.2.2.2.2.2.2.2.2.1, s8.2.2.2.2.2.2.2.2.2.2.2.2.2.2.1, ())).bind fun s9 => match s9 with
        | .out s9 =>
          (flotsamref08_Set (s9.2.2.2.2.1, s9.1, s9.2.1, s9.2.2.2.2.2.1, ())).bind fun y10 =>
          (flotsamref08_Paint (s9.2.2.2.2.1, s9.1, ())).bind fun y11 =>
          bif s9.2.2.1 != 0 then
            bif !s9.2.2.2.1 then
              some (true, ())
            else
            (flotsamref07_Same ((s9.2.2.2.2.2.2.2.2.2.2.1, s9.2.2.2.2.2.2.2.2.2.2.2.1, s9.2.2.2.2.2.2.2.1), y11.1, ())).bind fun y12 =>
            some (y12.1, ())
          else
          (flotsamref07_Same ((s9.2.2.2.2.2.2.2.2.1, s9.2.2.2.2.2.2.2.2.2.1, s9.2.2.2.2.2.2.1), y10.1, ())).bind fun y13 =>
          bif y13.1 then
            bif !s9.2.2.2.1 then
              some (true, ())
            else
            (flotsamref07_Same ((s9.2.2.2.2.2.2.2.2.2.2.1, s9.2.2.2.2.2.2.2.2.2.2.2.1, s9.2.2.2.2.2.2.2.1), y11.1, ())).bind fun y14 =>
            some (y14.1, ())
          else
          some (false, ())
        | .ret s9 =>
          none
      | .ret s8 =>
        none
    else none
  else none
def flotsamlaw08_ObjectKeeps_oo (x : Heap × Int × Int × Val × Unit) : Option (Bool × Unit) := flotsamlaw08_ObjectKeeps_oo_r x.1 x.2.1 x.2.2.1 x.2.2.2.1
noncomputable def flotsamlaw08_ObjectKeeps_oo_sm : Sum := ⟨(.cons cHeap (.cons cI (.cons cI (.cons cVal .nil)))), (.cons (.d .bool) .nil), flotsamlaw08_ObjectKeeps_oo⟩
noncomputable def flotsamlaw08_ObjectKeeps_oo_L0 : LoopSum := { hc := ⟨[], [1, 2, 4, 7, 9, 10, 11, 12, 13, 14], [], [], [0, 16, 336, 496, 640], [208, 272, 432, 433, 576, 577], 768⟩, h := ⟨[(1, (.d cI)), (2, (.d cI)), (4, (.pvar 0 [])), (7, (.pvar 16 [])), (9, (.pvar 336 [])), (10, (.pvar 496 [])), (11, (.d cI)), (12, (.pvar 640 [])), (13, (.d .bool)), (14, (.d cI))], [(0, (.d cHeap)), (16, (.d cVal)), (336, (.cons (.row 208) (.cons (.row 272) (.d (.cons .bool .nil))))), (496, (.cons (.row 432) (.cons (.row 433) (.d (.cons .bool .nil))))), (640, (.cons (.row 576) (.cons (.row 577) (.d (.cons .bool .nil)))))], [(208, (.int .u64), true), (272, cSpan, true), (432, (.int .u64), true), (433, cSpan, true), (576, (.int .u64), true), (577, cSpan, true)], 768⟩, xid := 0, oc := ⟨[], [1, 2, 4, 7, 9, 10, 11, 12, 13], [], [], [0, 16, 336, 496, 640], [208, 272, 432, 433, 576, 577], 768⟩, o := ⟨[(1, (.d cI)), (2, (.d cI)), (4, (.pvar 0 [])), (7, (.pvar 16 [])), (9, (.pvar 336 [])), (10, (.pvar 496 [])), (11, (.d cI)), (12, (.pvar 640 [])), (13, (.d .bool))], [(0, (.d cHeap)), (16, (.d cVal)), (336, (.cons (.row 208) (.cons (.row 272) (.d (.cons .bool .nil))))), (496, (.cons (.row 432) (.cons (.row 433) (.d (.cons .bool .nil))))), (640, (.cons (.row 576) (.cons (.row 577) (.d (.cons .bool .nil)))))], [(208, (.int .u64), true), (272, cSpan, true), (432, (.int .u64), true), (433, cSpan, true), (576, (.int .u64), true), (577, cSpan, true)], 768⟩, rc := ⟨[], [], [], [], [768], [], 768⟩, r := ⟨[], [], [], 768⟩, F := flotsamlaw08_ObjectKeeps_oo_l0 }
noncomputable def flotsamlaw08_ObjectKeeps_oo_L1 : LoopSum := { hc := ⟨[], [1, 2, 4, 7, 9, 10, 11, 12, 13, 15], [], [], [0, 16, 336, 496, 640], [208, 272, 432, 433, 576, 577], 784⟩, h := ⟨[(1, (.d cI)), (2, (.d cI)), (4, (.pvar 0 [])), (7, (.pvar 16 [])), (9, (.pvar 336 [])), (10, (.pvar 496 [])), (11, (.d cI)), (12, (.pvar 640 [])), (13, (.d .bool)), (15, (.d cI))], [(0, (.d cHeap)), (16, (.d cVal)), (336, (.cons (.row 208) (.cons (.row 272) (.d (.cons .bool .nil))))), (496, (.cons (.row 432) (.cons (.row 433) (.d (.cons .bool .nil))))), (640, (.cons (.row 576) (.cons (.row 577) (.d (.cons .bool .nil)))))], [(208, (.int .u64), true), (272, cSpan, true), (432, (.int .u64), true), (433, cSpan, true), (576, (.int .u64), true), (577, cSpan, true)], 784⟩, xid := 2, oc := ⟨[], [1, 2, 4, 7, 10, 11, 12, 13], [], [], [0, 16, 496, 640], [432, 433, 576, 577], 784⟩, o := ⟨[(1, (.d cI)), (2, (.d cI)), (4, (.pvar 0 [])), (7, (.pvar 16 [])), (10, (.pvar 496 [])), (11, (.d cI)), (12, (.pvar 640 [])), (13, (.d .bool))], [(0, (.d cHeap)), (16, (.d cVal)), (496, (.cons (.row 432) (.cons (.row 433) (.d (.cons .bool .nil))))), (640, (.cons (.row 576) (.cons (.row 577) (.d (.cons .bool .nil)))))], [(432, (.int .u64), true), (433, cSpan, true), (576, (.int .u64), true), (577, cSpan, true)], 784⟩, rc := ⟨[], [], [], [], [784], [], 784⟩, r := ⟨[], [], [], 784⟩, F := flotsamlaw08_ObjectKeeps_oo_l1 }
noncomputable def flotsamlaw08_ObjectKeeps_oo_S : List (Nat × Sum) := [(21, flotsamref07_Form_sm), (31, flotsamref07_Same_sm), (35, flotsamlaw08_awake_sm), (36, object_Set_o_sm), (37, object_Paint_o_sm), (38, flotsamref08_Set_sm), (39, flotsamref08_Paint_sm)]
noncomputable def flotsamlaw08_ObjectKeeps_oo_fl : List (Nat × Func) := []
noncomputable def flotsamlaw08_ObjectKeeps_oo_es : List AE := [⟨8, 8, 0, 0, flotsamlaw08_ObjectKeeps_oo_L0⟩, ⟨8, 8, 0, 2, flotsamlaw08_ObjectKeeps_oo_L1⟩]
theorem flotsamlaw08_ObjectKeeps_oo_den0 : (fun x => denStep TEv (look1 flotsamlaw08_ObjectKeeps_oo_S) (look1 flotsamlaw08_ObjectKeeps_oo_fl) (annOf flotsamlaw08_ObjectKeeps_oo_es) 8 8 Go.Proofs.Tryd.f8.ntmps 0 (cat (bodyOf Go.Proofs.Tryd.f8) [true, true, true, true, true, true, false, true, false, false]) flotsamlaw08_ObjectKeeps_oo_L0 x) = flotsamlaw08_ObjectKeeps_oo_s0 := by kernel_rfl
theorem flotsamlaw08_ObjectKeeps_oo_den1 : (fun x => denStep TEv (look1 flotsamlaw08_ObjectKeeps_oo_S) (look1 flotsamlaw08_ObjectKeeps_oo_fl) (annOf flotsamlaw08_ObjectKeeps_oo_es) 8 8 Go.Proofs.Tryd.f8.ntmps 0 (cat (bodyOf Go.Proofs.Tryd.f8) [true, true, true, true, true, true, true, false, true, false, false]) flotsamlaw08_ObjectKeeps_oo_L1 x) = flotsamlaw08_ObjectKeeps_oo_s1 := by kernel_rfl
theorem flotsamlaw08_ObjectKeeps_oo_den : (fun x => denFun TEv (look1 flotsamlaw08_ObjectKeeps_oo_S) (look1 flotsamlaw08_ObjectKeeps_oo_fl) (annOf flotsamlaw08_ObjectKeeps_oo_es) 8 8 Go.Proofs.Tryd.f8 flotsamlaw08_ObjectKeeps_oo_sm.a flotsamlaw08_ObjectKeeps_oo_sm.r x) = flotsamlaw08_ObjectKeeps_oo_sm.F := by kernel_rfl
theorem flotsamlaw08_ObjectKeeps_oo_ok0 : AEok Go.Proofs.Tryd.prog TEv (look1 flotsamlaw08_ObjectKeeps_oo_S) (look1 flotsamlaw08_ObjectKeeps_oo_fl) (annOf flotsamlaw08_ObjectKeeps_oo_es) ⟨8, 8, 0, 0, flotsamlaw08_ObjectKeeps_oo_L0⟩ := aeok_of 9223372036854775808 Go.Proofs.Tryd.func8 (by kernel_rfl) flotsamlaw08_ObjectKeeps_oo_den0 (by kernel_rfl)
theorem flotsamlaw08_ObjectKeeps_oo_ok1 : AEok Go.Proofs.Tryd.prog TEv (look1 flotsamlaw08_ObjectKeeps_oo_S) (look1 flotsamlaw08_ObjectKeeps_oo_fl) (annOf flotsamlaw08_ObjectKeeps_oo_es) ⟨8, 8, 0, 2, flotsamlaw08_ObjectKeeps_oo_L1⟩ := aeok_of 9223372036854775808 Go.Proofs.Tryd.func8 (by kernel_rfl) flotsamlaw08_ObjectKeeps_oo_den1 (by kernel_rfl)
theorem flotsamlaw08_ObjectKeeps_oo_sem : SemOf Go.Proofs.Tryd.prog 8 flotsamlaw08_ObjectKeeps_oo_sm :=
  semMk teOk (sl := flotsamlaw08_ObjectKeeps_oo_S) (all_cons flotsamref07_Form_sem (all_cons flotsamref07_Same_sem (all_cons flotsamlaw08_awake_sem (all_cons object_Set_o_sem (all_cons object_Paint_o_sem (all_cons flotsamref08_Set_sem (all_cons flotsamref08_Paint_sem all_nil))))))) (fl := flotsamlaw08_ObjectKeeps_oo_fl) (all_nil) (es := flotsamlaw08_ObjectKeeps_oo_es) Go.Proofs.Tryd.func8 (by kernel_rfl) rfl (rng_none (by kernel_rfl) (by kernel_rfl)) (all_cons flotsamlaw08_ObjectKeeps_oo_ok0 (all_cons flotsamlaw08_ObjectKeeps_oo_ok1 (all_nil))) rfl flotsamlaw08_ObjectKeeps_oo_den

/-! ### flotsam/flotsamlaw08.ObjectKeeps -/
def flotsamlaw08_ObjectKeeps_on_s0r (v1 : Int) (v2 : Int) (v11 : Int) (v13 : Bool) (v14 : Int) (c0 : Heap) (c16 : Val) (c336 : Bool × Unit) (c496 : Bool × Unit) (c640 : Unit) (r208 : List Int) (r272 : List Span) (r432 : List Int) (r433 : List Span) : Option (SRes (.cons cI (.cons cI (.cons cI (.cons .bool (.cons cI (.cons cHeap (.cons cVal (.cons (.cons .bool .nil) (.cons (.cons .bool .nil) (.cons .nil (.cons (.sl (.int .u64)) (.cons (.sl cSpan) (.cons (.sl (.int .u64)) (.cons (.sl cSpan) .nil)))))))))))))) (.cons cI (.cons cI (.cons cI (.cons .bool (.cons cHeap (.cons cVal (.cons (.cons .bool .nil) (.cons (.cons .bool .nil) (.cons .nil (.cons (.sl (.int .u64)) (.cons (.sl cSpan) (.cons (.sl (.int .u64)) (.cons (.sl cSpan) .nil))))))))))))) .nil) :=
  bif decide (v14 < (r208.length : Int)) then
    bif decide (0 ≤ v14) then
      bif decide (v14 < (r208.length : Int)) then
        some (.next (v1, v2, v11, v13, wi64 (v14 + 1), c0, c16, c336, c496, c640, r208.set v14.toNat 3, r272, r432, r433, ()))
      else none
    else none
  else
  some (.fin (.out (v1, v2, v11, v13, c0, c16, c336, c496, c640, r208, r272, r432, r433, ())))
def flotsamlaw08_ObjectKeeps_on_s0 (x : Int × Int × Int × Bool × Int × Heap × Val × (Bool × Unit) × (Bool × Unit) × Unit × (List Int) × (List Span) × (List Int) × (List Span) × Unit) : Option (SRes (.cons cI (.cons cI (.cons cI (.cons .bool (.cons cI (.cons cHeap (.cons cVal (.cons (.cons .bool .nil) (.cons (.cons .bool .nil) (.cons .nil (.cons (.sl (.int .u64)) (.cons (.sl cSpan) (.cons (.sl (.int .u64)) (.cons (.sl cSpan) .nil)))))))))))))) (.cons cI (.cons cI (.cons cI (.cons .bool (.cons cHeap (.cons cVal (.cons (.cons .bool .nil) (.cons (.cons .bool .nil) (.cons .nil (.cons (.sl (.int .u64)) (.cons (.sl cSpan) (.cons (.sl (.int .u64)) (.cons (.sl cSpan) .nil))))))))))))) .nil) := flotsamlaw08_ObjectKeeps_on_s0r x.1 x.2.1 x.2.2.1 x.2.2.2.1 x.2.2.2.2.1 x.2.2.2.2.2.1 x.2.2.2.2.2.2.1 x.2.2.2.2.2.2.2.1 x.2.2.2.2.2.2.2.2.1 x.2.2.2.2.2.2.2.2.2.1 x.2.2.2.2.2.2.2.2.2.2.1 x.2.2.2.2.2.2.2.2.2.2.2.1 x.2.2.2.2.2.2.2.2.2.2.2.2.1 x.2.2.2.2.2.2.2.2.2.2.2.2.2.1
def flotsamlaw08_ObjectKeeps_on_l0 (x : Int × Int × Int × Bool × Int × Heap × Val × (Bool × Unit) × (Bool × Unit) × Unit × (List Int) × (List Span) × (List Int) × (List Span) × Unit) : Option (LRes (.cons cI (.cons cI (.cons cI (.cons .bool (.cons cHeap (.cons cVal (.cons (.cons .bool .nil) (.cons (.cons .bool .nil) (.cons .nil (.cons (.sl (.int .u64)) (.cons (.sl cSpan) (.cons (.sl (.int .u64)) (.cons (.sl cSpan) .nil))))))))))))) .nil) := iterL (h := (.cons cI (.cons cI (.cons cI (.cons .bool (.cons cI (.cons cHeap (.cons cVal (.cons (.cons .bool .nil) (.cons (.cons .bool .nil) (.cons .nil (.cons (.sl (.int .u64)) (.cons (.sl cSpan) (.cons (.sl (.int .u64)) (.cons (.sl cSpan) .nil))))))))))))))) (o := (.cons cI (.cons cI (.cons cI (.cons .bool (.cons cHeap (.cons cVal (.cons (.cons .bool .nil) (.cons (.cons .bool .nil) (.cons .nil (.cons (.sl (.int .u64)) (.cons (.sl cSpan) (.cons (.sl (.int .u64)) (.cons (.sl cSpan) .nil)))))))))))))) (r := .nil) flotsamlaw08_ObjectKeeps_on_s0 9223372036854775808 x
def flotsamlaw08_ObjectKeeps_on_s1r (v1 : Int) (v2 : Int) (v11 : Int) (v13 : Bool) (v15 : Int) (c0 : Heap) (c16 : Val) (c336 : Bool × Unit) (c496 : Bool × Unit) (c640 : Unit) (r208 : List Int) (r272 : List Span) (r432 : List Int) (r433 : List Span) : Option (SRes (.cons cI (.cons cI (.cons cI (.cons .bool (.cons cI (.cons cHeap (.cons cVal (.cons (.cons .bool .nil) (.cons (.cons .bool .nil) (.cons .nil (.cons (.sl (.int .u64)) (.cons (.sl cSpan) (.cons (.sl (.int .u64)) (.cons (.sl cSpan) .nil)))))))))))))) (.cons cI (.cons cI (.cons cI (.cons .bool (.cons cHeap (.cons cVal (.cons (.cons .bool .nil) (.cons .nil (.cons (.sl (.int .u64)) (.cons (.sl cSpan) .nil)))))))))) .nil) :=
  bif decide (v15 < (r272.length : Int)) then
    bif decide (0 ≤ v15) then
      bif decide (v15 < (r272.length : Int)) then
        some (.next (v1, v2, v11, v13, wi64 (v15 + 1), c0, c16, c336, c496, c640, r208, r272.set v15.toNat (0, 0, 0, ()), r432, r433, ()))
      else none
    else none
  else
  some (.fin (.out (v1, v2, v11, v13, c0, c16, c496, c640, r432, r433, ())))
def flotsamlaw08_ObjectKeeps_on_s1 (x : Int × Int × Int × Bool × Int × Heap × Val × (Bool × Unit) × (Bool × Unit) × Unit × (List Int) × (List Span) × (List Int) × (List Span) × Unit) : Option (SRes (.cons cI (.cons cI (.cons cI (.cons .bool (.cons cI (.cons cHeap (.cons cVal (.cons (.cons .bool .nil) (.cons (.cons .bool .nil) (.cons .nil (.cons (.sl (.int .u64)) (.cons (.sl cSpan) (.cons (.sl (.int .u64)) (.cons (.sl cSpan) .nil)))))))))))))) (.cons cI (.cons cI (.cons cI (.cons .bool (.cons cHeap (.cons cVal (.cons (.cons .bool .nil) (.cons .nil (.cons (.sl (.int .u64)) (.cons (.sl cSpan) .nil)))))))))) .nil) := flotsamlaw08_ObjectKeeps_on_s1r x.1 x.2.1 x.2.2.1 x.2.2.2.1 x.2.2.2.2.1 x.2.2.2.2.2.1 x.2.2.2.2.2.2.1 x.2.2.2.2.2.2.2.1 x.2.2.2.2.2.2.2.2.1 x.2.2.2.2.2.2.2.2.2.1 x.2.2.2.2.2.2.2.2.2.2.1 x.2.2.2.2.2.2.2.2.2.2.2.1 x.2.2.2.2.2.2.2.2.2.2.2.2.1 x.2.2.2.2.2.2.2.2.2.2.2.2.2.1
def flotsamlaw08_ObjectKeeps_on_l1 (x : Int × Int × Int × Bool × Int × Heap × Val × (Bool × Unit) × (Bool × Unit) × Unit × (List Int) × (List Span) × (List Int) × (List Span) × Unit) : Option (LRes (.cons cI (.cons cI (.cons cI (.cons .bool (.cons cHeap (.cons cVal (.cons (.cons .bool .nil) (.cons .nil (.cons (.sl (.int .u64)) (.cons (.sl cSpan) .nil)))))))))) .nil) := iterL (h := (.cons cI (.cons cI (.cons cI (.cons .bool (.cons cI (.cons cHeap (.cons cVal (.cons (.cons .bool .nil) (.cons (.cons .bool .nil) (.cons .nil (.cons (.sl (.int .u64)) (.cons (.sl cSpan) (.cons (.sl (.int .u64)) (.cons (.sl cSpan) .nil))))))))))))))) (o := (.cons cI (.cons cI (.cons cI (.cons .bool (.cons cHeap (.cons cVal (.cons (.cons .bool .nil) (.cons .nil (.cons (.sl (.int .u64)) (.cons (.sl cSpan) .nil))))))))))) (r := .nil) flotsamlaw08_ObjectKeeps_on_s1 9223372036854775808 x
def flotsamlaw08_ObjectKeeps_on_r (a0 : Heap) (a1 : Int) (a2 : Int) (a3 : Val) : Option (Bool × Unit) :=
  (flotsamlaw08_awake ()).bind fun y1 =>
  bif !y1.1 then
    (flotsamlaw08_awake ()).bind fun y2 =>
    some (y2.1, ())
  else
  (flotsamref07_Form (a0, ())).bind fun y3 =>
  bif !y3.1 then
    (flotsamlaw08_awake ()).bind fun y4 =>
    some (y4.1, ())
  else
  bif decide ((0 + a0.1.length) * 8 ≤ 140737488355328) then
    bif decide ((0 + a0.2.1.length) * 24 ≤ 140737488355328) then
      (object_Set_o ((a0.1, a0.2.1, a0.2.2.1, ()), a1, a2, a3, ())).bind fun y5 =>
      (object_Paint_n ((a0.1, a0.2.1, a0.2.2.1, ()), a1, ())).bind fun y6 =>
      (flotsamref07_Same ((a0.1, a0.2.1, a0.2.2.1, ()), a0, ())).bind fun y7 =>
      bif !y7.1 then
        some (false, ())
      else
      (flotsamlaw08_ObjectKeeps_on_l0 (a1, a2, y5.2.1, y6.2.1, 0, a0, a3, (a0.2.2.1, ()), y5.1.2.2, (), a0.1, a0.2.1, y5.1.1, y5.1.2.1, ())).bind fun s8 => match s8 with
      | .out s8 =>
        (flotsamlaw08_ObjectKeeps_on_l1 (s8.1, s8.2.1, s8.2.2.1, s8.2.2.2.1, 0, s8.2.2.2.2.1, s8.2.2.2.2.2.1, s8.2.2.2.2.2.2.1, s8.2.2.2.2.2.2.2.1, s8.2.2.2.2.2.2.2.2.1, s8.2.2.2.2.2.2.2.2.2.1, s8.2.2.2.2.2.2.2.2.2.2.1, s8.2.2.2.2.2.2.2.2.2.2.2.1, s8.2.2.2.2.2.2.2.2.2.2.2.2.1, ())).bind fun s9 => match s9 with
        | .out s9 =>
          (flotsamref08_Set (s9.2.2.2.2.1, s9.1, s9.2.1, s9.2.2.2.2.2.1, ())).bind fun y10 =>
          (flotsamref08_Paint (s9.2.2.2.2.1, s9.1, ())).bind fun y11 =>
          bif s9.2.2.1 != 0 then
            bif !s9.2.2.2.1 then
              some (true, ())
            else none
          else
          (flotsamref07_Same ((s9.2.2.2.2.2.2.2.2.1, s9.2.2.2.2.2.2.2.2.2.1, s9.2.2.2.2.2.2.1), y10.1, ())).bind fun y12 =>
          bif y12.1 then
            bif !s9.2.2.2.1 then
              some (true, ())
            else none
          else
          some (false, ())
        | .ret s9 =>
          none
      | .ret s8 =>
        none
    else none
  else none
def flotsamlaw08_ObjectKeeps_on (x : Heap × Int × Int × Val × Unit) : Option (Bool × Unit) := flotsamlaw08_ObjectKeeps_on_r x.1 x.2.1 x.2.2.1 x.2.2.2.1
noncomputable def flotsamlaw08_ObjectKeeps_on_sm : Sum := ⟨(.cons cHeap (.cons cI (.cons cI (.cons cVal .nil)))), (.cons (.d .bool) .nil), flotsamlaw08_ObjectKeeps_on⟩
noncomputable def flotsamlaw08_ObjectKeeps_on_L0 : LoopSum := { hc := ⟨[], [1, 2, 4, 7, 9, 10, 11, 12, 13, 14], [], [], [0, 16, 336, 496, 640], [208, 272, 432, 433], 768⟩, h := ⟨[(1, (.d cI)), (2, (.d cI)), (4, (.pvar 0 [])), (7, (.pvar 16 [])), (9, (.pvar 336 [])), (10, (.pvar 496 [])), (11, (.d cI)), (12, (.pvar 640 [])), (13, (.d .bool)), (14, (.d cI))], [(0, (.d cHeap)), (16, (.d cVal)), (336, (.cons (.row 208) (.cons (.row 272) (.d (.cons .bool .nil))))), (496, (.cons (.row 432) (.cons (.row 433) (.d (.cons .bool .nil))))), (640, (.cons .undef (.cons .undef (.cons .undef (.d .nil)))))], [(208, (.int .u64), true), (272, cSpan, true), (432, (.int .u64), true), (433, cSpan, true)], 768⟩, xid := 0, oc := ⟨[], [1, 2, 4, 7, 9, 10, 11, 12, 13], [], [], [0, 16, 336, 496, 640], [208, 272, 432, 433], 768⟩, o := ⟨[(1, (.d cI)), (2, (.d cI)), (4, (.pvar 0 [])), (7, (.pvar 16 [])), (9, (.pvar 336 [])), (10, (.pvar 496 [])), (11, (.d cI)), (12, (.pvar 640 [])), (13, (.d .bool))], [(0, (.d cHeap)), (16, (.d cVal)), (336, (.cons (.row 208) (.cons (.row 272) (.d (.cons .bool .nil))))), (496, (.cons (.row 432) (.cons (.row 433) (.d (.cons .bool .nil))))), (640, (.cons .undef (.cons .undef (.cons .undef (.d .nil)))))], [(208, (.int .u64), true), (272, cSpan, true), (432, (.int .u64), true), (433, cSpan, true)], 768⟩, rc := ⟨[], [], [], [], [768], [], 768⟩, r := ⟨[], [], [], 768⟩, F := flotsamlaw08_ObjectKeeps_on_l0 }
noncomputable def flotsamlaw08_ObjectKeeps_on_L1 : LoopSum := { hc := ⟨[], [1, 2, 4, 7, 9, 10, 11, 12, 13, 15], [], [], [0, 16, 336, 496, 640], [208, 272, 432, 433], 784⟩, h := ⟨[(1, (.d cI)), (2, (.d cI)), (4, (.pvar 0 [])), (7, (.pvar 16 [])), (9, (.pvar 336 [])), (10, (.pvar 496 [])), (11, (.d cI)), (12, (.pvar 640 [])), (13, (.d .bool)), (15, (.d cI))], [(0, (.d cHeap)), (16, (.d cVal)), (336, (.cons (.row 208) (.cons (.row 272) (.d (.cons .bool .nil))))), (496, (.cons (.row 432) (.cons (.row 433) (.d (.cons .bool .nil))))), (640, (.cons .undef (.cons .undef (.cons .undef (.d .nil)))))], [(208, (.int .u64), true), (272, cSpan, true), (432, (.int .u64), true), (433, cSpan, true)], 784⟩, xid := 2, oc := ⟨[], [1, 2, 4, 7, 10, 11, 12, 13], [], [], [0, 16, 496, 640], [432, 433], 784⟩, o := ⟨[(1, (.d cI)), (2, (.d cI)), (4, (.pvar 0 [])), (7, (.pvar 16 [])), (10, (.pvar 496 [])), (11, (.d cI)), (12, (.pvar 640 [])), (13, (.d .bool))], [(0, (.d cHeap)), (16, (.d cVal)), (496, (.cons (.row 432) (.cons (.row 433) (.d (.cons .bool .nil))))), (640, (.cons .undef (.cons .undef (.cons .undef (.d .nil)))))], [(432, (.int .u64), true), (433, cSpan, true)], 784⟩, rc := ⟨[], [], [], [], [784], [], 784⟩, r := ⟨[], [], [], 784⟩, F := flotsamlaw08_ObjectKeeps_on_l1 }
noncomputable def flotsamlaw08_ObjectKeeps_on_S : List (Nat × Sum) := [(21, flotsamref07_Form_sm), (31, flotsamref07_Same_sm), (35, flotsamlaw08_awake_sm), (36, object_Set_o_sm), (37, object_Paint_n_sm), (38, flotsamref08_Set_sm), (39, flotsamref08_Paint_sm)]
noncomputable def flotsamlaw08_ObjectKeeps_on_fl : List (Nat × Func) := []
noncomputable def flotsamlaw08_ObjectKeeps_on_es : List AE := [⟨8, 8, 0, 0, flotsamlaw08_ObjectKeeps_on_L0⟩, ⟨8, 8, 0, 2, flotsamlaw08_ObjectKeeps_on_L1⟩]
theorem flotsamlaw08_ObjectKeeps_on_den0 : (fun x => denStep TEv (look1 flotsamlaw08_ObjectKeeps_on_S) (look1 flotsamlaw08_ObjectKeeps_on_fl) (annOf flotsamlaw08_ObjectKeeps_on_es) 8 8 Go.Proofs.Tryd.f8.ntmps 0 (cat (bodyOf Go.Proofs.Tryd.f8) [true, true, true, true, true, true, false, true, false, false]) flotsamlaw08_ObjectKeeps_on_L0 x) = flotsamlaw08_ObjectKeeps_on_s0 := by kernel_rfl
theorem flotsamlaw08_ObjectKeeps_on_den1 : (fun x => denStep TEv (look1 flotsamlaw08_ObjectKeeps_on_S) (look1 flotsamlaw08_ObjectKeeps_on_fl) (annOf flotsamlaw08_ObjectKeeps_on_es) 8 8 Go.Proofs.Tryd.f8.ntmps 0 (cat (bodyOf Go.Proofs.Tryd.f8) [true, true, true, true, true, true, true, false, true, false, false]) flotsamlaw08_ObjectKeeps_on_L1 x) = flotsamlaw08_ObjectKeeps_on_s1 := by kernel_rfl
theorem flotsamlaw08_ObjectKeeps_on_den : (fun x => denFun TEv (look1 flotsamlaw08_ObjectKeeps_on_S) (look1 flotsamlaw08_ObjectKeeps_on_fl) (annOf flotsamlaw08_ObjectKeeps_on_es) 8 8 Go.Proofs.Tryd.f8 flotsamlaw08_ObjectKeeps_on_sm.a flotsamlaw08_ObjectKeeps_on_sm.r x) = flotsamlaw08_ObjectKeeps_on_sm.F := by kernel_rfl
theorem flotsamlaw08_ObjectKeeps_on_ok0 : AEok Go.Proofs.Tryd.prog TEv (look1 flotsamlaw08_ObjectKeeps_on_S) (look1 flotsamlaw08_ObjectKeeps_on_fl) (annOf flotsamlaw08_ObjectKeeps_on_es) ⟨8, 8, 0, 0, flotsamlaw08_ObjectKeeps_on_L0⟩ := aeok_of 9223372036854775808 Go.Proofs.Tryd.func8 (by kernel_rfl) flotsamlaw08_ObjectKeeps_on_den0 (by kernel_rfl)
theorem flotsamlaw08_ObjectKeeps_on_ok1 : AEok Go.Proofs.Tryd.prog TEv (look1 flotsamlaw08_ObjectKeeps_on_S) (look1 flotsamlaw08_ObjectKeeps_on_fl) (annOf flotsamlaw08_ObjectKeeps_on_es) ⟨8, 8, 0, 2, flotsamlaw08_ObjectKeeps_on_L1⟩ := aeok_of 9223372036854775808 Go.Proofs.Tryd.func8 (by kernel_rfl) flotsamlaw08_ObjectKeeps_on_den1 (by kernel_rfl)
theorem flotsamlaw08_ObjectKeeps_on_sem : SemOf Go.Proofs.Tryd.prog 8 flotsamlaw08_ObjectKeeps_on_sm :=
  semMk teOk (sl := flotsamlaw08_ObjectKeeps_on_S) (all_cons flotsamref07_Form_sem (all_cons flotsamref07_Same_sem (all_cons flotsamlaw08_awake_sem (all_cons object_Set_o_sem (all_cons object_Paint_n_sem (all_cons flotsamref08_Set_sem (all_cons flotsamref08_Paint_sem all_nil))))))) (fl := flotsamlaw08_ObjectKeeps_on_fl) (all_nil) (es := flotsamlaw08_ObjectKeeps_on_es) Go.Proofs.Tryd.func8 (by kernel_rfl) rfl (rng_none (by kernel_rfl) (by kernel_rfl)) (all_cons flotsamlaw08_ObjectKeeps_on_ok0 (all_cons flotsamlaw08_ObjectKeeps_on_ok1 (all_nil))) rfl flotsamlaw08_ObjectKeeps_on_den

/-! ### flotsam/flotsamlaw08.ObjectKeeps -/
def flotsamlaw08_ObjectKeeps_no_s0r (v1 : Int) (v2 : Int) (v11 : Int) (v13 : Bool) (v14 : Int) (c0 : Heap) (c16 : Val) (c336 : Bool × Unit) (c496 : Unit) (c640 : Bool × Unit) (r208 : List Int) (r272 : List Span) (r576 : List Int) (r577 : List Span) : Option (SRes (.cons cI (.cons cI (.cons cI (.cons .bool (.cons cI (.cons cHeap (.cons cVal (.cons (.cons .bool .nil) (.cons .nil (.cons (.cons .bool .nil) (.cons (.sl (.int .u64)) (.cons (.sl cSpan) (.cons (.sl (.int .u64)) (.cons (.sl cSpan) .nil)))))))))))))) (.cons cI (.cons cI (.cons cI (.cons .bool (.cons cHeap (.cons cVal (.cons (.cons .bool .nil) (.cons .nil (.cons (.cons .bool .nil) (.cons (.sl (.int .u64)) (.cons (.sl cSpan) (.cons (.sl (.int .u64)) (.cons (.sl cSpan) .nil))))))))))))) .nil) :=
  bif decide (v14 < (r208.length : Int)) then
    bif decide (0 ≤ v14) then
      bif decide (v14 < (r208.length : Int)) then
        some (.next (v1, v2, v11, v13, wi64 (v14 + 1), c0, c16, c336, c496, c640, r208.set v14.toNat 3, r272, r576, r577, ()))
      else none
    else none
  else
  some (.fin (.out (v1, v2, v11, v13, c0, c16, c336, c496, c640, r208, r272, r576, r577, ())))
def flotsamlaw08_ObjectKeeps_no_s0 (x : Int × Int × Int × Bool × Int × Heap × Val × (Bool × Unit) × Unit × (Bool × Unit) × (List Int) × (List Span) × (List Int) × (List Span) × Unit) : Option (SRes (.cons cI (.cons cI (.cons cI (.cons .bool (.cons cI (.cons cHeap (.cons cVal (.cons (.cons .bool .nil) (.cons .nil (.cons (.cons .bool .nil) (.cons (.sl (.int .u64)) (.cons (.sl cSpan) (.cons (.sl (.int .u64)) (.cons (.sl cSpan) .nil)))))))))))))) (.cons cI (.cons cI (.cons cI (.cons .bool (.cons cHeap (.cons cVal (.cons (.cons .bool .nil) (.cons .nil (.cons (.cons .bool .nil) (.cons (.sl (.int .u64)) (.cons (.sl cSpan) (.cons (.sl (.int .u64)) (.cons (.sl cSpan) .nil))))))))))))) .nil) := flotsamlaw08_ObjectKeeps_no_s0r x.1 x.2.1 x.2.2.1 x.2.2.2.1 x.2.2.2.2.1 x.2.2.2.2.2.1 x.2.2.2.2.2.2.1 x.2.2.2.2.2.2.2.1 x.2.2.2.2.2.2.2.2.1 x.2.2.2.2.2.2.2.2.2.1 x.2.2.2.2.2.2.2.2.2.2.1 x.2.2.2.2.2.2.2.2.2.2.2.1 x.2.2.2.2.2.2.2.2.2.2.2.2.1 x.2.2.2.2.2.2.2.2.2.2.2.2.2.1
def flotsamlaw08_ObjectKeeps_no_l0 (x : Int × Int × Int × Bool × Int × Heap × Val × (Bool × Unit) × Unit × (Bool × Unit) × (List Int) × (List Span) × (List Int) × (List Span) × Unit) : Option (LRes (.cons cI (.cons cI (.cons cI (.cons .bool (.cons cHeap (.cons cVal (.cons (.cons .bool .nil) (.cons .nil (.cons (.cons .bool .nil) (.cons (.sl (.int .u64)) (.cons (.sl cSpan) (.cons (.sl (.int .u64)) (.cons (.sl cSpan) .nil))))))))))))) .nil) := iterL (h := (.cons cI (.cons cI (.cons cI (.cons .bool (.cons cI (.cons cHeap (.cons cVal (.cons (.cons .bool .nil) (.cons .nil (.cons (.cons .bool .nil) (.cons (.sl (.int .u64)) (.cons (.sl cSpan) (.cons (.sl (.int .u64)) (.cons (.sl cSpan) .nil))))))))))))))) (o := (.cons cI (.cons cI (.cons cI (.cons .bool (.cons cHeap (.cons cVal (.cons (.cons .bool .nil) (.cons .nil (.cons (.cons .bool .nil) (.cons (.sl (.int .u64)) (.cons (.sl cSpan) (.cons (.sl (.int .u64)) (.cons (.sl cSpan) .nil)))))))))))))) (r := .nil) flotsamlaw08_ObjectKeeps_no_s0 9223372036854775808 x
def flotsamlaw08_ObjectKeeps_no_s1r (v1 : Int) (v2 : Int) (v11 : Int) (v13 : Bool) (v15 : Int) (c0 : Heap) (c16 : Val) (c336 : Bool × Unit) (c496 : Unit) (c640 : Bool × Unit) (r208 : List Int) (r272 : List Span) (r576 : List Int) (r577 : List Span) : Option (SRes (.cons cI (.cons cI (.cons cI (.cons .bool (.cons cI (.cons cHeap (.cons cVal (.cons (.cons .bool .nil) (.cons .nil (.cons (.cons .bool .nil) (.cons (.sl (.int .u64)) (.cons (.sl cSpan) (.cons (.sl (.int .u64)) (.cons (.sl cSpan) .nil)))))))))))))) (.cons cI (.cons cI (.cons cI (.cons .bool (.cons cHeap (.cons cVal (.cons .nil (.cons (.cons .bool .nil) (.cons (.sl (.int .u64)) (.cons (.sl cSpan) .nil)))))))))) .nil) :=
  bif decide (v15 < (r272.length : Int)) then
    bif decide (0 ≤ v15) then
      bif decide (v15 < (r272.length : Int)) then
        some (.next (v1, v2, v11, v13, wi64 (v15 + 1), c0, c16, c336, c496, c640, r208, r272.set v15.toNat (0, 0, 0, ()), r576, r577, ()))
      else none
    else none
  else
  some (.fin (.out (v1, v2, v11, v13, c0, c16, c496, c640, r576, r577, ())))
def flotsamlaw08_ObjectKeeps_no_s1 (x : Int × Int × Int × Bool × Int × Heap × Val × (Bool × Unit) × Unit × (Bool × Unit) × (List Int) × (List Span) × (List Int) × (List Span) × Unit) : Option (SRes (.cons cI (.cons cI (.cons cI (.cons .bool (.cons cI (.cons cHeap (.cons cVal (.cons (.cons .bool .nil) (.cons .nil (.cons (.cons .bool .nil) (.cons (.sl (.int .u64)) (.cons (.sl cSpan) (.cons (.sl (.int .u64)) (.cons (.sl cSpan) .nil)))))))))))))) (.cons cI (.cons cI (.cons cI (.cons .bool (.cons cHeap (.cons cVal (.cons .nil (.cons (.cons .bool .nil) (.cons (.sl (.int .u64)) (.cons (.sl cSpan) .nil)))))))))) .nil) := flotsamlaw08_ObjectKeeps_no_s1r x.1 x.2.1 x.2.2.1 x.2.2.2.1 x.2.2.2.2.1 x.2.2.2.2.2.1 x.2.2.2.2.2.2.1 x.2.2.2.2.2.2.2.1 x.2.2.2.2.2.2.2.2.1 x.2.2.2.2.2.2.2.2.2.1 x.2.2.2.2.2.2.2.2.2.2.1 x.2.2.2.2.2.2.2.2.2.2.2.1 x.2.2.2.2.2.2.2.2.2.2.2.2.1 x.2.2.2.2.2.2.2.2.2.2.2.2.2.1
def flotsamlaw08_ObjectKeeps_no_l1 (x : Int × Int × Int × Bool × Int × Heap × Val × (Bool × Unit) × Unit × (Bool × Unit) × (List Int) × (List Span) × (List Int) × (List Span) × Unit) : Option (LRes (.cons cI (.cons cI (.cons cI (.cons .bool (.cons cHeap (.cons cVal (.cons .nil (.cons (.cons .bool .nil) (.cons (.sl (.int .u64)) (.cons (.sl cSpan) .nil)))))))))) .nil) := iterL (h := (.cons cI (.cons cI (.cons cI (.cons .bool (.cons cI (.cons cHeap (.cons cVal (.cons (.cons .bool .nil) (.cons .nil (.cons (.cons .bool .nil) (.cons (.sl (.int .u64)) (.cons (.sl cSpan) (.cons (.sl (.int .u64)) (.cons (.sl cSpan) .nil))))))))))))))) (o := (.cons cI (.cons cI (.cons cI (.cons .bool (.cons cHeap (.cons cVal (.cons .nil (.cons (.cons .bool .nil) (.cons (.sl (.int .u64)) (.cons (.sl cSpan) .nil))))))))))) (r := .nil) flotsamlaw08_ObjectKeeps_no_s1 9223372036854775808 x
def flotsamlaw08_ObjectKeeps_no_r (a0 : Heap) (a1 : Int) (a2 : Int) (a3 : Val) : Option (Bool × Unit) :=
  (flotsamlaw08_awake ()).bind fun y1 =>
  bif !y1.1 then
    (flotsamlaw08_awake ()).bind fun y2 =>
    some (y2.1, ())
  else
  (flotsamref07_Form (a0, ())).bind fun y3 =>
  bif !y3.1 then
    (flotsamlaw08_awake ()).bind fun y4 =>
    some (y4.1, ())
  else
  bif decide ((0 + a0.1.length) * 8 ≤ 140737488355328) then
    bif decide ((0 + a0.2.1.length) * 24 ≤ 140737488355328) then
      (object_Set_n ((a0.1, a0.2.1, a0.2.2.1, ()), a1, a2, a3, ())).bind fun y5 =>
      (object_Paint_o ((a0.1, a0.2.1, a0.2.2.1, ()), a1, ())).bind fun y6 =>
      (flotsamref07_Same ((a0.1, a0.2.1, a0.2.2.1, ()), a0, ())).bind fun y7 =>
      bif !y7.1 then
        some (false, ())
      else
      (flotsamlaw08_ObjectKeeps_no_l0 (a1, a2, y5.2.1, y6.2.1, 0, a0, a3, (a0.2.2.1, ()), (), y6.1.2.2, a0.1, a0.2.1, y6.1.1, y6.1.2.1, ())).bind fun s8 => match s8 with
      | .out s8 =>
        (flotsamlaw08_ObjectKeeps_no_l1 (s8.1, s8.2.1, s8.2.2.1, s8.2.2.2.1, 0, s8.2.2.2.2.1, s8.2.2.2.2.2.1, s8.2.2.2.2.2.2.1, s8.2.2.2.2.2.2.2.1, s8.2.2.2.2.2.2.2.2.1, s8.2.2.2.2.2.2.2.2.2.1, s8.2.2.2.2.2.2.2.2.2.2.1, s8.2.2.2.2.2.2.2.2.2.2.2.1, s8.2.2.2.2.2.2.2.2.2.2.2.2.1, ())).bind fun s9 => match s9 with
        | .out s9 =>
          (flotsamref08_Set (s9.2.2.2.2.1, s9.1, s9.2.1, s9.2.2.2.2.2.1, ())).bind fun y10 =>
          (flotsamref08_Paint (s9.2.2.2.2.1, s9.1, ())).bind fun y11 =>
          bif s9.2.2.1 != 0 then
            bif !s9.2.2.2.1 then
              some (true, ())
            else
            (flotsamref07_Same ((s9.2.2.2.2.2.2.2.2.1, s9.2.2.2.2.2.2.2.2.2.1, s9.2.2.2.2.2.2.2.1), y11.1, ())).bind fun y12 =>
            some (y12.1, ())
          else none
        | .ret s9 =>
          none
      | .ret s8 =>
        none
    else none
  else none
def flotsamlaw08_ObjectKeeps_no (x : Heap × Int × Int × Val × Unit) : Option (Bool × Unit) := flotsamlaw08_ObjectKeeps_no_r x.1 x.2.1 x.2.2.1 x.2.2.2.1
noncomputable def flotsamlaw08_ObjectKeeps_no_sm : Sum := ⟨(.cons cHeap (.cons cI (.cons cI (.cons cVal .nil)))), (.cons (.d .bool) .nil), flotsamlaw08_ObjectKeeps_no⟩
noncomputable def flotsamlaw08_ObjectKeeps_no_L0 : LoopSum := { hc := ⟨[], [1, 2, 4, 7, 9, 10, 11, 12, 13, 14], [], [], [0, 16, 336, 496, 640], [208, 272, 576, 577], 768⟩, h := ⟨[(1, (.d cI)), (2, (.d cI)), (4, (.pvar 0 [])), (7, (.pvar 16 [])), (9, (.pvar 336 [])), (10, (.pvar 496 [])), (11, (.d cI)), (12, (.pvar 640 [])), (13, (.d .bool)), (14, (.d cI))], [(0, (.d cHeap)), (16, (.d cVal)), (336, (.cons (.row 208) (.cons (.row 272) (.d (.cons .bool .nil))))), (496, (.cons .undef (.cons .undef (.cons .undef (.d .nil))))), (640, (.cons (.row 576) (.cons (.row 577) (.d (.cons .bool .nil)))))], [(208, (.int .u64), true), (272, cSpan, true), (576, (.int .u64), true), (577, cSpan, true)], 768⟩, xid := 0, oc := ⟨[], [1, 2, 4, 7, 9, 10, 11, 12, 13], [], [], [0, 16, 336, 496, 640], [208, 272, 576, 577], 768⟩, o := ⟨[(1, (.d cI)), (2, (.d cI)), (4, (.pvar 0 [])), (7, (.pvar 16 [])), (9, (.pvar 336 [])), (10, (.pvar 496 [])), (11, (.d cI)), (12, (.pvar 640 [])), (13, (.d .bool))], [(0, (.d cHeap)), (16, (.d cVal)), (336, (.cons (.row 208) (.cons (.row 272) (.d (.cons .bool .nil))))), (496, (.cons .undef (.cons .undef (.cons .undef (.d .nil))))), (640, (.cons (.row 576) (.cons (.row 577) (.d (.cons .bool .nil)))))], [(208, (.int .u64), true), (272, cSpan, true), (576, (.int .u64), true), (577, cSpan, true)], 768⟩, rc := ⟨[], [], [], [], [768], [], 768⟩, r := ⟨[], [], [], 768⟩, F := flotsamlaw08_ObjectKeeps_no_l0 }
noncomputable def flotsamlaw08_ObjectKeeps_no_L1 : LoopSum := { hc := ⟨[], [1, 2, 4, 7, 9, 10, 11, 12, 13, 15], [], [], [0, 16, 336, 496, 640], [208, 272, 576, 577], 784⟩, h := ⟨[(1, (.d cI)), (2, (.d cI)), (4, (.pvar 0 [])), (7, (.pvar 16 [])), (9, (.pvar 336 [])), (10, (.pvar 496 [])), (11, (.d cI)), (12, (.pvar 640 [])), (13, (.d .bool)), (15, (.d cI))], [(0, (.d cHeap)), (16, (.d cVal)), (336, (.cons (.row 208) (.cons (.row 272) (.d (.cons .bool .nil))))), (496, (.cons .undef (.cons .undef (.cons .undef (.d .nil))))), (640, (.cons (.row 576) (.cons (.row 577) (.d (.cons .bool .nil)))))], [(208, (.int .u64), true), (272, cSpan, true), (576, (.int .u64), true), (577, cSpan, true)], 784⟩, xid := 2, oc := ⟨[], [1, 2, 4, 7, 10, 11, 12, 13], [], [], [0, 16, 496, 640], [576, 577], 784⟩, o := ⟨[(1, (.d cI)), (2, (.d cI)), (4, (.pvar 0 [])), (7, (.pvar 16 [])), (10, (.pvar 496 [])), (11, (.d cI)), (12, (.pvar 640 [])), (13, (.d .bool))], [(0, (.d cHeap)), (16, (.d cVal)), (496, (.cons .undef (.cons .undef (.cons .undef (.d .nil))))), (640, (.cons (.row 576) (.cons (.row 577) (.d (.cons .bool .nil)))))], [(576, (.int .u64), true), (577, cSpan, true)], 784⟩, rc := ⟨[], [], [], [], [784], [], 784⟩, r := ⟨[], [], [], 784⟩, F := flotsamlaw08_ObjectKeeps_no_l1 }
noncomputable def flotsamlaw08_ObjectKeeps_no_S : List (Nat × Sum) := [(21, flotsamref07_Form_sm), (31, flotsamref07_Same_sm), (35, flotsamlaw08_awake_sm), (36, object_Set_n_sm), (37, object_Paint_o_sm), (38, flotsamref08_Set_sm), (39, flotsamref08_Paint_sm)]
noncomputable def flotsamlaw08_ObjectKeeps_no_fl : List (Nat × Func) := []
noncomputable def flotsamlaw08_ObjectKeeps_no_es : List AE := [⟨8, 8, 0, 0, flotsamlaw08_ObjectKeeps_no_L0⟩, ⟨8, 8, 0, 2, flotsamlaw08_ObjectKeeps_no_L1⟩]
theorem flotsamlaw08_ObjectKeeps_no_den0 : (fun x => denStep TEv (look1 flotsamlaw08_ObjectKeeps_no_S) (look1 flotsamlaw08_ObjectKeeps_no_fl) (annOf flotsamlaw08_ObjectKeeps_no_es) 8 8 Go.Proofs.Tryd.f8.ntmps 0 (cat (bodyOf Go.Proofs.Tryd.f8) [true, true, true, true, true, true, false, true, false, false]) flotsamlaw08_ObjectKeeps_no_L0 x) = flotsamlaw08_ObjectKeeps_no_s0 := by kernel_rfl
theorem flotsamlaw08_ObjectKeeps_no_den1 : (fun x => denStep TEv (look1 flotsamlaw08_ObjectKeeps_no_S) (look1 flotsamlaw08_ObjectKeeps_no_fl) (annOf flotsamlaw08_ObjectKeeps_no_es) 8 8 Go.Proofs.Tryd.f8.ntmps 0 (cat (bodyOf Go.Proofs.Tryd.f8) [true, true, true, true, true, true, true, false, true, false, false]) flotsamlaw08_ObjectKeeps_no_L1 x) = flotsamlaw08_ObjectKeeps_no_s1 := by kernel_rfl
theorem flotsamlaw08_ObjectKeeps_no_den : (fun x => denFun TEv (look1 flotsamlaw08_ObjectKeeps_no_S) (look1 flotsamlaw08_ObjectKeeps_no_fl) (annOf flotsamlaw08_ObjectKeeps_no_es) 8 8 Go.Proofs.Tryd.f8 flotsamlaw08_ObjectKeeps_no_sm.a flotsamlaw08_ObjectKeeps_no_sm.r x) = flotsamlaw08_ObjectKeeps_no_sm.F := by kernel_rfl
theorem flotsamlaw08_ObjectKeeps_no_ok0 : AEok Go.Proofs.Tryd.prog TEv (look1 flotsamlaw08_ObjectKeeps_no_S) (look1 flotsamlaw08_ObjectKeeps_no_fl) (annOf flotsamlaw08_ObjectKeeps_no_es) ⟨8, 8, 0, 0, flotsamlaw08_ObjectKeeps_no_L0⟩ := aeok_of 9223372036854775808 Go.Proofs.Tryd.func8 (by kernel_rfl) flotsamlaw08_ObjectKeeps_no_den0 (by kernel_rfl)
theorem flotsamlaw08_ObjectKeeps_no_ok1 : AEok Go.Proofs.Tryd.prog TEv (look1 flotsamlaw08_ObjectKeeps_no_S) (look1 flotsamlaw08_ObjectKeeps_no_fl) (annOf flotsamlaw08_ObjectKeeps_no_es) ⟨8, 8, 0, 2, flotsamlaw08_ObjectKeeps_no_L1⟩ := aeok_of 9223372036854775808 Go.Proofs.Tryd.func8 (by kernel_rfl) flotsamlaw08_ObjectKeeps_no_den1 (by kernel_rfl)
theorem flotsamlaw08_ObjectKeeps_no_sem : SemOf Go.Proofs.Tryd.prog 8 flotsamlaw08_ObjectKeeps_no_sm :=
  semMk teOk (sl := flotsamlaw08_ObjectKeeps_no_S) (all_cons flotsamref07_Form_sem (all_cons flotsamref07_Same_sem (all_cons flotsamlaw08_awake_sem (all_cons object_Set_n_sem (all_cons object_Paint_o_sem (all_cons flotsamref08_Set_sem (all_cons flotsamref08_Paint_sem all_nil))))))) (fl := flotsamlaw08_ObjectKeeps_no_fl) (all_nil) (es := flotsamlaw08_ObjectKeeps_no_es) Go.Proofs.Tryd.func8 (by kernel_rfl) rfl (rng_none (by kernel_rfl) (by kernel_rfl)) (all_cons flotsamlaw08_ObjectKeeps_no_ok0 (all_cons flotsamlaw08_ObjectKeeps_no_ok1 (all_nil))) rfl flotsamlaw08_ObjectKeeps_no_den

/-! ### flotsam/flotsamlaw08.ObjectKeeps -/
def flotsamlaw08_ObjectKeeps_nn_s0r (v1 : Int) (v2 : Int) (v11 : Int) (v13 : Bool) (v14 : Int) (c0 : Heap) (c16 : Val) (c336 : Bool × Unit) (c496 : Unit) (c640 : Unit) (r208 : List Int) (r272 : List Span) : Option (SRes (.cons cI (.cons cI (.cons cI (.cons .bool (.cons cI (.cons cHeap (.cons cVal (.cons (.cons .bool .nil) (.cons .nil (.cons .nil (.cons (.sl (.int .u64)) (.cons (.sl cSpan) .nil)))))))))))) (.cons cI (.cons cI (.cons cI (.cons .bool (.cons cHeap (.cons cVal (.cons (.cons .bool .nil) (.cons .nil (.cons .nil (.cons (.sl (.int .u64)) (.cons (.sl cSpan) .nil))))))))))) .nil) :=
  bif decide (v14 < (r208.length : Int)) then
    bif decide (0 ≤ v14) then
      bif decide (v14 < (r208.length : Int)) then
        some (.next (v1, v2, v11, v13, wi64 (v14 + 1), c0, c16, c336, c496, c640, r208.set v14.toNat 3, r272, ()))
      else none
    else none
  else
  some (.fin (.out (v1, v2, v11, v13, c0, c16, c336, c496, c640, r208, r272, ())))
def flotsamlaw08_ObjectKeeps_nn_s0 (x : Int × Int × Int × Bool × Int × Heap × Val × (Bool × Unit) × Unit × Unit × (List Int) × (List Span) × Unit) : Option (SRes (.cons cI (.cons cI (.cons cI (.cons .bool (.cons cI (.cons cHeap (.cons cVal (.cons (.cons .bool .nil) (.cons .nil (.cons .nil (.cons (.sl (.int .u64)) (.cons (.sl cSpan) .nil)))))))))))) (.cons cI (.cons cI (.cons cI (.cons .bool (.cons cHeap (.cons cVal (.cons (.cons .bool .nil) (.cons .nil (.cons .nil (.cons (.sl (.int .u64)) (.cons (.sl cSpan) .nil))))))))))) .nil) := flotsamlaw08_ObjectKeeps_nn_s0r x.1 x.2.1 x.2.2.1 x.2.2.2.1 x.2.2.2.2.1 x.2.2.2.2.2.1 x.2.2.2.2.2.2.1 x.2.2.2.2.2.2.2.1 x.2.2.2.2.2.2.2.2.1 x.2.2.2.2.2.2.2.2.2.1 x.2.2.2.2.2.2.2.2.2.2.1 x.2.2.2.2.2.2.2.2.2.2.2.1
def flotsamlaw08_ObjectKeeps_nn_l0 (x : Int × Int × Int × Bool × Int × Heap × Val × (Bool × Unit) × Unit × Unit × (List Int) × (List Span) × Unit) : Option (LRes (.cons cI (.cons cI (.cons cI (.cons .bool (.cons cHeap (.cons cVal (.cons (.cons .bool .nil) (.cons .nil (.cons .nil (.cons (.sl (.int .u64)) (.cons (.sl cSpan) .nil))))))))))) .nil) := iterL (h := (.cons cI (.cons cI (.cons cI (.cons .bool (.cons cI (.cons cHeap (.cons cVal (.cons (.cons .bool .nil) (.cons .nil (.cons .nil (.cons (.sl (.int .u64)) (.cons (.sl cSpan) .nil))))))))))))) (o := (.cons cI (.cons cI (.cons cI (.cons .bool (.cons cHeap (.cons cVal (.cons (.cons .bool .nil) (.cons .nil (.cons .nil (.cons (.sl (.int .u64)) (.cons (.sl cSpan) .nil)))))))))))) (r := .nil) flotsamlaw08_ObjectKeeps_nn_s0 9223372036854775808 x
def flotsamlaw08_ObjectKeeps_nn_s1r (v1 : Int) (v2 : Int) (v11 : Int) (v13 : Bool) (v15 : Int) (c0 : Heap) (c16 : Val) (c336 : Bool × Unit) (c496 : Unit) (c640 : Unit) (r208 : List Int) (r272 : List Span) : Option (SRes (.cons cI (.cons cI (.cons cI (.cons .bool (.cons cI (.cons cHeap (.cons cVal (.cons (.cons .bool .nil) (.cons .nil (.cons .nil (.cons (.sl (.int .u64)) (.cons (.sl cSpan) .nil)))))))))))) (.cons cI (.cons cI (.cons cI (.cons .bool (.cons cHeap (.cons cVal (.cons .nil (.cons .nil .nil)))))))) .nil) :=
  bif decide (v15 < (r272.length : Int)) then
    bif decide (0 ≤ v15) then
      bif decide (v15 < (r272.length : Int)) then
        some (.next (v1, v2, v11, v13, wi64 (v15 + 1), c0, c16, c336, c496, c640, r208, r272.set v15.toNat (0, 0, 0, ()), ()))
      else none
    else none
  else
  some (.fin (.out (v1, v2, v11, v13, c0, c16, c496, c640, ())))
def flotsamlaw08_ObjectKeeps_nn_s1 (x : Int × Int × Int × Bool × Int × Heap × Val × (Bool × Unit) × Unit × Unit × (List Int) × (List Span) × Unit) : Option (SRes (.cons cI (.cons cI (.cons cI (.cons .bool (.cons cI (.cons cHeap (.cons cVal (.cons (.cons .bool .nil) (.cons .nil (.cons .nil (.cons (.sl (.int .u64)) (.cons (.sl cSpan) .nil)))))))))))) (.cons cI (.cons cI (.cons cI (.cons .bool (.cons cHeap (.cons cVal (.cons .nil (.cons .nil .nil)))))))) .nil) := flotsamlaw08_ObjectKeeps_nn_s1r x.1 x.2.1 x.2.2.1 x.2.2.2.1 x.2.2.2.2.1 x.2.2.2.2.2.1 x.2.2.2.2.2.2.1 x.2.2.2.2.2.2.2.1 x.2.2.2.2.2.2.2.2.1 x.2.2.2.2.2.2.2.2.2.1 x.2.2.2.2.2.2.2.2.2.2.1 x.2.2.2.2.2.2.2.2.2.2.2.1
def flotsamlaw08_ObjectKeeps_nn_l1 (x : Int × Int × Int × Bool × Int × Heap × Val × (Bool × Unit) × Unit × Unit × (List Int) × (List Span) × Unit) : Option (LRes (.cons cI (.cons cI (.cons cI (.cons .bool (.cons cHeap (.cons cVal (.cons .nil (.cons .nil .nil)))))))) .nil) := iterL (h := (.cons cI (.cons cI (.cons cI (.cons .bool (.cons cI (.cons cHeap (.cons cVal (.cons (.cons .bool .nil) (.cons .nil (.cons .nil (.cons (.sl (.int .u64)) (.cons (.sl cSpan) .nil))))))))))))) (o := (.cons cI (.cons cI (.cons cI (.cons .bool (.cons cHeap (.cons cVal (.cons .nil (.cons .nil .nil))))))))) (r := .nil) flotsamlaw08_ObjectKeeps_nn_s1 9223372036854775808 x
def flotsamlaw08_ObjectKeeps_nn_r (a0 : Heap) (a1 : Int) (a2 : Int) (a3 : Val) : Option (Bool × Unit) :=
  (flotsamlaw08_awake ()).bind fun y1 =>
  bif !y1.1 then
    (flotsamlaw08_awake ()).bind fun y2 =>
    some (y2.1, ())
  else
  (flotsamref07_Form (a0, ())).bind fun y3 =>
  bif !y3.1 then
    (flotsamlaw08_awake ()).bind fun y4 =>
    some (y4.1, ())
  else
  bif decide ((0 + a0.1.length) * 8 ≤ 140737488355328) then
    bif decide ((0 + a0.2.1.length) * 24 ≤ 140737488355328) then
      (object_Set_n ((a0.1, a0.2.1, a0.2.2.1, ()), a1, a2, a3, ())).bind fun y5 =>
      (object_Paint_n ((a0.1, a0.2.1, a0.2.2.1, ()), a1, ())).bind fun y6 =>
      (flotsamref07_Same ((a0.1, a0.2.1, a0.2.2.1, ()), a0, ())).bind fun y7 =>
      bif !y7.1 then
        some (false, ())
      else
      (flotsamlaw08_ObjectKeeps_nn_l0 (a1, a2, y5.2.1, y6.2.1, 0, a0, a3, (a0.2.2.1, ()), (), (), a0.1, a0.2.1, ())).bind fun s8 => match s8 with
      | .out s8 =>
        (flotsamlaw08_ObjectKeeps_nn_l1 (s8.1, s8.2.1, s8.2.2.1, s8.2.2.2.1, 0, s8.2.2.2.2.1, s8.2.2.2.2.2.1, s8.2.2.2.2.2.2.1, s8.2.2.2.2.2.2.2.1, s8.2.2.2.2.2.2.2.2.1, s8.2.2.2.2.2.2.2.2.2.1, s8.2.2.2.2.2.2.2.2.2.2.1, ())).bind fun s9 => match s9 with
        | .out s9 =>
          (flotsamref08_Set (s9.2.2.2.2.1, s9.1, s9.2.1, s9.2.2.2.2.2.1, ())).bind fun y10 =>
          (flotsamref08_Paint (s9.2.2.2.2.1, s9.1, ())).bind fun y11 =>
          bif s9.2.2.1 != 0 then
            bif !s9.2.2.2.1 then
              some (true, ())
            else none
          else none
        | .ret s9 =>
          none
      | .ret s8 =>
        none
    else none
  else none
def flotsamlaw08_ObjectKeeps_nn (x : Heap × Int × Int × Val × Unit) : Option (Bool × Unit) := flotsamlaw08_ObjectKeeps_nn_r x.1 x.2.1 x.2.2.1 x.2.2.2.1
noncomputable def flotsamlaw08_ObjectKeeps_nn_sm : Sum := ⟨(.cons cHeap (.cons cI (.cons cI (.cons cVal .nil)))), (.cons (.d .bool) .nil), flotsamlaw08_ObjectKeeps_nn⟩
noncomputable def flotsamlaw08_ObjectKeeps_nn_L0 : LoopSum := { hc := ⟨[], [1, 2, 4, 7, 9, 10, 11, 12, 13, 14], [], [], [0, 16, 336, 496, 640], [208, 272], 768⟩, h := ⟨[(1, (.d cI)), (2, (.d cI)), (4, (.pvar 0 [])), (7, (.pvar 16 [])), (9, (.pvar 336 [])), (10, (.pvar 496 [])), (11, (.d cI)), (12, (.pvar 640 [])), (13, (.d .bool)), (14, (.d cI))], [(0, (.d cHeap)), (16, (.d cVal)), (336, (.cons (.row 208) (.cons (.row 272) (.d (.cons .bool .nil))))), (496, (.cons .undef (.cons .undef (.cons .undef (.d .nil))))), (640, (.cons .undef (.cons .undef (.cons .undef (.d .nil)))))], [(208, (.int .u64), true), (272, cSpan, true)], 768⟩, xid := 0, oc := ⟨[], [1, 2, 4, 7, 9, 10, 11, 12, 13], [], [], [0, 16, 336, 496, 640], [208, 272], 768⟩, o := ⟨[(1, (.d cI)), (2, (.d cI)), (4, (.pvar 0 [])), (7, (.pvar 16 [])), (9, (.pvar 336 [])), (10, (.pvar 496 [])), (11, (.d cI)), (12, (.pvar 640 [])), (13, (.d .bool))], [(0, (.d cHeap)), (16, (.d cVal)), (336, (.cons (.row 208) (.cons (.row 272) (.d (.cons .bool .nil))))), (496, (.cons .undef (.cons .undef (.cons .undef (.d .nil))))), (640, (.cons .undef (.cons .undef (.cons .undef (.d .nil)))))], [(208, (.int .u64), true), (272, cSpan, true)], 768⟩, rc := ⟨[], [], [], [], [768], [], 768⟩, r := ⟨[], [], [], 768⟩, F := flotsamlaw08_ObjectKeeps_nn_l0 }
noncomputable def flotsamlaw08_ObjectKeeps_nn_L1 : LoopSum := { hc := ⟨[], [1, 2, 4, 7, 9, 10, 11, 12, 13, 15], [], [], [0, 16, 336, 496, 640], [208, 272], 784⟩, h := ⟨[(1, (.d cI)), (2, (.d cI)), (4, (.pvar 0 [])), (7, (.pvar 16 [])), (9, (.pvar 336 [])), (10, (.pvar 496 [])), (11, (.d cI)), (12, (.pvar 640 [])), (13, (.d .bool)), (15, (.d cI))], [(0, (.d cHeap)), (16, (.d cVal)), (336, (.cons (.row 208) (.cons (.row 272) (.d (.cons .bool .nil))))), (496, (.cons .undef (.cons .undef (.cons .undef (.d .nil))))), (640, (.cons .undef (.cons .undef (.cons .undef (.d .nil)))))], [(208, (.int .u64), true), (272, cSpan, true)], 784⟩, xid := 2, oc := ⟨[], [1, 2, 4, 7, 10, 11, 12, 13], [], [], [0, 16, 496, 640], [], 784⟩, o := ⟨[(1, (.d cI)), (2, (.d cI)), (4, (.pvar 0 [])), (7, (.pvar 16 [])), (10, (.pvar 496 [])), (11, (.d cI)), (12, (.pvar 640 [])), (13, (.d .bool))], [(0, (.d cHeap)), (16, (.d cVal)), (496, (.cons .undef (.cons .undef (.cons .undef (.d .nil))))), (640, (.cons .undef (.cons .undef (.cons .undef (.d .nil)))))], [], 784⟩, rc := ⟨[], [], [], [], [784], [], 784⟩, r := ⟨[], [], [], 784⟩, F := flotsamlaw08_ObjectKeeps_nn_l1 }
noncomputable def flotsamlaw08_ObjectKeeps_nn_S : List (Nat × Sum) := [(21, flotsamref07_Form_sm), (31, flotsamref07_Same_sm), (35, flotsamlaw08_awake_sm), (36, object_Set_n_sm), (37, object_Paint_n_sm), (38, flotsamref08_Set_sm), (39, flotsamref08_Paint_sm)]
noncomputable def flotsamlaw08_ObjectKeeps_nn_fl : List (Nat × Func) := []
noncomputable def flotsamlaw08_ObjectKeeps_nn_es : List AE := [⟨8, 8, 0, 0, flotsamlaw08_ObjectKeeps_nn_L0⟩, ⟨8, 8, 0, 2, flotsamlaw08_ObjectKeeps_nn_L1⟩]
theorem flotsamlaw08_ObjectKeeps_nn_den0 : (fun x => denStep TEv (look1 flotsamlaw08_ObjectKeeps_nn_S) (look1 flotsamlaw08_ObjectKeeps_nn_fl) (annOf flotsamlaw08_ObjectKeeps_nn_es) 8 8 Go.Proofs.Tryd.f8.ntmps 0 (cat (bodyOf Go.Proofs.Tryd.f8) [true, true, true, true, true, true, false, true, false, false]) flotsamlaw08_ObjectKeeps_nn_L0 x) = flotsamlaw08_ObjectKeeps_nn_s0 := by kernel_rfl
theorem flotsamlaw08_ObjectKeeps_nn_den1 : (fun x => denStep TEv (look1 flotsamlaw08_ObjectKeeps_nn_S) (look1 flotsamlaw08_ObjectKeeps_nn_fl) (annOf flotsamlaw08_ObjectKeeps_nn_es) 8 8 Go.Proofs.Tryd.f8.ntmps 0 (cat (bodyOf Go.Proofs.Tryd.f8) [true, true, true, true, true, true, true, false, true, false, false]) flotsamlaw08_ObjectKeeps_nn_L1 x) = flotsamlaw08_ObjectKeeps_nn_s1 := by kernel_rfl
theorem flotsamlaw08_ObjectKeeps_nn_den : (fun x => denFun TEv (look1 flotsamlaw08_ObjectKeeps_nn_S) (look1 flotsamlaw08_ObjectKeeps_nn_fl) (annOf flotsamlaw08_ObjectKeeps_nn_es) 8 8 Go.Proofs.Tryd.f8 flotsamlaw08_ObjectKeeps_nn_sm.a flotsamlaw08_ObjectKeeps_nn_sm.r x) = flotsamlaw08_ObjectKeeps_nn_sm.F := by kernel_rfl
theorem flotsamlaw08_ObjectKeeps_nn_ok0 : AEok Go.Proofs.Tryd.prog TEv (look1 flotsamlaw08_ObjectKeeps_nn_S) (look1 flotsamlaw08_ObjectKeeps_nn_fl) (annOf flotsamlaw08_ObjectKeeps_nn_es) ⟨8, 8, 0, 0, flotsamlaw08_ObjectKeeps_nn_L0⟩ := aeok_of 9223372036854775808 Go.Proofs.Tryd.func8 (by kernel_rfl) flotsamlaw08_ObjectKeeps_nn_den0 (by kernel_rfl)
theorem flotsamlaw08_ObjectKeeps_nn_ok1 : AEok Go.Proofs.Tryd.prog TEv (look1 flotsamlaw08_ObjectKeeps_nn_S) (look1 flotsamlaw08_ObjectKeeps_nn_fl) (annOf flotsamlaw08_ObjectKeeps_nn_es) ⟨8, 8, 0, 2, flotsamlaw08_ObjectKeeps_nn_L1⟩ := aeok_of 9223372036854775808 Go.Proofs.Tryd.func8 (by kernel_rfl) flotsamlaw08_ObjectKeeps_nn_den1 (by kernel_rfl)
theorem flotsamlaw08_ObjectKeeps_nn_sem : SemOf Go.Proofs.Tryd.prog 8 flotsamlaw08_ObjectKeeps_nn_sm :=
  semMk teOk (sl := flotsamlaw08_ObjectKeeps_nn_S) (all_cons flotsamref07_Form_sem (all_cons flotsamref07_Same_sem (all_cons flotsamlaw08_awake_sem (all_cons object_Set_n_sem (all_cons object_Paint_n_sem (all_cons flotsamref08_Set_sem (all_cons flotsamref08_Paint_sem all_nil))))))) (fl := flotsamlaw08_ObjectKeeps_nn_fl) (all_nil) (es := flotsamlaw08_ObjectKeeps_nn_es) Go.Proofs.Tryd.func8 (by kernel_rfl) rfl (rng_none (by kernel_rfl) (by kernel_rfl)) (all_cons flotsamlaw08_ObjectKeeps_nn_ok0 (all_cons flotsamlaw08_ObjectKeeps_nn_ok1 (all_nil))) rfl flotsamlaw08_ObjectKeeps_nn_den

def flotsamlaw08_ObjectKeeps : (Heap × Int × Int × Val × Unit) → Option (Bool × Unit) := anyTrue [flotsamlaw08_ObjectKeeps_oo, flotsamlaw08_ObjectKeeps_on, flotsamlaw08_ObjectKeeps_no, flotsamlaw08_ObjectKeeps_nn]
noncomputable def flotsamlaw08_ObjectKeeps_sm : Sum := ⟨(.cons cHeap (.cons cI (.cons cI (.cons cVal .nil)))), (.cons (.d .bool) .nil), flotsamlaw08_ObjectKeeps⟩
theorem flotsamlaw08_ObjectKeeps_sem : SemOf Go.Proofs.Tryd.prog 8 flotsamlaw08_ObjectKeeps_sm := semAny (a := (.cons cHeap (.cons cI (.cons cI (.cons cVal .nil))))) flotsamlaw08_ObjectKeeps_oo_sem (l := [flotsamlaw08_ObjectKeeps_oo, flotsamlaw08_ObjectKeeps_on, flotsamlaw08_ObjectKeeps_no, flotsamlaw08_ObjectKeeps_nn]) (all_cons flotsamlaw08_ObjectKeeps_oo_sem (all_cons flotsamlaw08_ObjectKeeps_on_sem (all_cons flotsamlaw08_ObjectKeeps_no_sem (all_cons flotsamlaw08_ObjectKeeps_nn_sem (all_nil)))))
end Go.Proofs.YtdfhopakojmjkaaDoor.Den
