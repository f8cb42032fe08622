/- What functions come to. Printed by a program of this session. -/
import Derived.Test.YtdiogegolnoeoaaDoorDenF3
namespace Go.Proofs.YtdiogegolnoeoaaDoor.Den
open Go
set_option maxRecDepth 100000
set_option linter.unusedVariables false
/-! ### flotsam/flotsamlaw15.ReachLeast -/
def flotsamlaw15_ReachLeast_s0r (v10 : Int) (c0 : Heap) (r336 : List Int) (r400 : List Int) (r528 : List Int) : Option (SRes (.cons cI (.cons cHeap (.cons (.sl cI) (.cons (.sl cI) (.cons (.sl cI) .nil))))) (.cons cHeap (.cons (.sl cI) (.cons (.sl cI) (.cons (.sl cI) .nil)))) (.cons .bool .nil)) :=
  bif decide (v10 < (r528.length : Int)) then
    bif decide (0 ≤ v10) then
      bif decide (v10 < (r528.length : Int)) then
        (flotsamref08_In (r336, r528.getD v10.toNat 0, ())).bind fun y10 =>
        bif !y10.1 then
          bif decide (0 ≤ v10) then
            bif decide (v10 < (r528.length : Int)) then
              (flotsamref08_In (r400, r528.getD v10.toNat 0, ())).bind fun y11 =>
              bif !y11.1 then
                some (.fin (.ret (false, ())))
              else
              some (.next (wi64 (v10 + 1), c0, r336, r400, r528, ()))
            else none
          else none
        else
        some (.next (wi64 (v10 + 1), c0, r336, r400, r528, ()))
      else none
    else none
  else
  some (.fin (.out (c0, r336, r400, r528, ())))
def flotsamlaw15_ReachLeast_s0 (x : Int × Heap × (List Int) × (List Int) × (List Int) × Unit) : Option (SRes (.cons cI (.cons cHeap (.cons (.sl cI) (.cons (.sl cI) (.cons (.sl cI) .nil))))) (.cons cHeap (.cons (.sl cI) (.cons (.sl cI) (.cons (.sl cI) .nil)))) (.cons .bool .nil)) := flotsamlaw15_ReachLeast_s0r x.1 x.2.1 x.2.2.1 x.2.2.2.1 x.2.2.2.2.1
def flotsamlaw15_ReachLeast_l0 (x : Int × Heap × (List Int) × (List Int) × (List Int) × Unit) : Option (LRes (.cons cHeap (.cons (.sl cI) (.cons (.sl cI) (.cons (.sl cI) .nil)))) (.cons .bool .nil)) := iterL (h := (.cons cI (.cons cHeap (.cons (.sl cI) (.cons (.sl cI) (.cons (.sl cI) .nil)))))) (o := (.cons cHeap (.cons (.sl cI) (.cons (.sl cI) (.cons (.sl cI) .nil))))) (r := (.cons .bool .nil)) flotsamlaw15_ReachLeast_s0 9223372036854775808 x
def flotsamlaw15_ReachLeast_s1r (v12 : Int) (c0 : Heap) (r336 : List Int) (r400 : List Int) (r528 : List Int) (r608 : List Val) : Option (SRes (.cons cI (.cons cHeap (.cons (.sl cI) (.cons (.sl cI) (.cons (.sl cI) (.cons (.sl cVal) .nil)))))) (.cons cHeap (.cons (.sl cI) (.cons (.sl cI) (.cons (.sl cI) (.cons (.sl cVal) .nil))))) (.cons .bool .nil)) :=
  bif decide (v12 < (r336.length : Int)) then
    bif decide (0 ≤ v12) then
      bif decide (v12 < (r336.length : Int)) then
        bif decide ((r608.length + 1) * 16 ≤ 140737488355328) then
          bif decide (0 ≤ v12) then
            bif decide (v12 < (r336.length : Int)) then
              (flotsamref08_In (r528, r336.getD v12.toNat 0, ())).bind fun y13 =>
              bif !y13.1 then
                some (.fin (.ret (false, ())))
              else
              some (.next (wi64 (v12 + 1), c0, r336, r400, r528, r608 ++ [(2, r336.getD v12.toNat 0, ())], ()))
            else none
          else none
        else none
      else none
    else none
  else
  some (.fin (.out (c0, r336, r400, r528, r608, ())))
def flotsamlaw15_ReachLeast_s1 (x : Int × Heap × (List Int) × (List Int) × (List Int) × (List Val) × Unit) : Option (SRes (.cons cI (.cons cHeap (.cons (.sl cI) (.cons (.sl cI) (.cons (.sl cI) (.cons (.sl cVal) .nil)))))) (.cons cHeap (.cons (.sl cI) (.cons (.sl cI) (.cons (.sl cI) (.cons (.sl cVal) .nil))))) (.cons .bool .nil)) := flotsamlaw15_ReachLeast_s1r x.1 x.2.1 x.2.2.1 x.2.2.2.1 x.2.2.2.2.1 x.2.2.2.2.2.1
def flotsamlaw15_ReachLeast_l1 (x : Int × Heap × (List Int) × (List Int) × (List Int) × (List Val) × Unit) : Option (LRes (.cons cHeap (.cons (.sl cI) (.cons (.sl cI) (.cons (.sl cI) (.cons (.sl cVal) .nil))))) (.cons .bool .nil)) := iterL (h := (.cons cI (.cons cHeap (.cons (.sl cI) (.cons (.sl cI) (.cons (.sl cI) (.cons (.sl cVal) .nil))))))) (o := (.cons cHeap (.cons (.sl cI) (.cons (.sl cI) (.cons (.sl cI) (.cons (.sl cVal) .nil)))))) (r := (.cons .bool .nil)) flotsamlaw15_ReachLeast_s1 9223372036854775808 x
def flotsamlaw15_ReachLeast_s2r (v13 : Int) (c0 : Heap) (r336 : List Int) (r400 : List Int) (r528 : List Int) (r608 : List Val) : Option (SRes (.cons cI (.cons cHeap (.cons (.sl cI) (.cons (.sl cI) (.cons (.sl cI) (.cons (.sl cVal) .nil)))))) (.cons cHeap (.cons (.sl cI) (.cons (.sl cI) (.cons (.sl cVal) .nil)))) (.cons .bool .nil)) :=
  bif decide (v13 < (r400.length : Int)) then
    bif decide (0 ≤ v13) then
      bif decide (v13 < (r400.length : Int)) then
        (flotsamref08_In (r528, r400.getD v13.toNat 0, ())).bind fun y15 =>
        bif !y15.1 then
          some (.fin (.ret (false, ())))
        else
        some (.next (wi64 (v13 + 1), c0, r336, r400, r528, r608, ()))
      else none
    else none
  else
  some (.fin (.out (c0, r336, r528, r608, ())))
def flotsamlaw15_ReachLeast_s2 (x : Int × Heap × (List Int) × (List Int) × (List Int) × (List Val) × Unit) : Option (SRes (.cons cI (.cons cHeap (.cons (.sl cI) (.cons (.sl cI) (.cons (.sl cI) (.cons (.sl cVal) .nil)))))) (.cons cHeap (.cons (.sl cI) (.cons (.sl cI) (.cons (.sl cVal) .nil)))) (.cons .bool .nil)) := flotsamlaw15_ReachLeast_s2r x.1 x.2.1 x.2.2.1 x.2.2.2.1 x.2.2.2.2.1 x.2.2.2.2.2.1
def flotsamlaw15_ReachLeast_l2 (x : Int × Heap × (List Int) × (List Int) × (List Int) × (List Val) × Unit) : Option (LRes (.cons cHeap (.cons (.sl cI) (.cons (.sl cI) (.cons (.sl cVal) .nil)))) (.cons .bool .nil)) := iterL (h := (.cons cI (.cons cHeap (.cons (.sl cI) (.cons (.sl cI) (.cons (.sl cI) (.cons (.sl cVal) .nil))))))) (o := (.cons cHeap (.cons (.sl cI) (.cons (.sl cI) (.cons (.sl cVal) .nil))))) (r := (.cons .bool .nil)) flotsamlaw15_ReachLeast_s2 9223372036854775808 x
def flotsamlaw15_ReachLeast_r (a0 : Heap) (a1 : List Val) (a2 : List Val) : Option (Bool × Unit) :=
  (flotsamlaw15_awake ()).bind fun y1 =>
  bif !y1.1 then
    (flotsamlaw15_awake ()).bind fun y2 =>
    some (y2.1, ())
  else
  (flotsamref07_Form (a0, ())).bind fun y3 =>
  bif !y3.1 then
    (flotsamlaw15_awake ()).bind fun y4 =>
    some (y4.1, ())
  else
  bif decide ((a1.length : Int) > 100) then
    (flotsamlaw15_awake ()).bind fun y5 =>
    some (y5.1, ())
  else
  bif decide ((a2.length : Int) > 100) then
    (flotsamlaw15_awake ()).bind fun y6 =>
    some (y6.1, ())
  else
  (reach_From (a0, a1, ())).bind fun y7 =>
  (reach_From (a0, a2, ())).bind fun y8 =>
  bif decide ((0 + a1.length) * 16 ≤ 140737488355328) then
    bif decide ((a1.length + a2.length) * 16 ≤ 140737488355328) then
      (reach_From (a0, a1 ++ a2, ())).bind fun y9 =>
      (flotsamlaw15_ReachLeast_l0 (0, a0, y7.1, y8.1, y9.1, ())).bind fun s12 => match s12 with
      | .out s12 =>
        (flotsamlaw15_ReachLeast_l1 (0, s12.1, s12.2.1, s12.2.2.1, s12.2.2.2.1, [], ())).bind fun s14 => match s14 with
        | .out s14 =>
          (flotsamlaw15_ReachLeast_l2 (0, s14.1, s14.2.1, s14.2.2.1, s14.2.2.2.1, s14.2.2.2.2.1, ())).bind fun s16 => match s16 with
          | .out s16 =>
            (reach_From (s16.1, s16.2.2.2.1, ())).bind fun y17 =>
            (flotsamref08_Ints (y17.1, s16.2.1, ())).bind fun y18 =>
            bif y18.1 then
              (reach_From (s16.1, [], ())).bind fun y19 =>
              bif (y19.1.length : Int) == 0 then
                (reach_Words (s16.1, s16.2.1, ())).bind fun y20 =>
                (reach_Words (s16.1, s16.2.2.1, ())).bind fun y21 =>
                some (decide (y20.1 ≤ y21.1), ())
              else
              some (false, ())
            else
            some (false, ())
          | .ret s16 =>
            some (s16.1, ())
        | .ret s14 =>
          some (s14.1, ())
      | .ret s12 =>
        some (s12.1, ())
    else none
  else none
def flotsamlaw15_ReachLeast (x : Heap × (List Val) × (List Val) × Unit) : Option (Bool × Unit) := flotsamlaw15_ReachLeast_r x.1 x.2.1 x.2.2.1
noncomputable def flotsamlaw15_ReachLeast_sm : Sum := ⟨(.cons cHeap (.cons (.sl cVal) (.cons (.sl cVal) .nil))), (.cons (.d .bool) .nil), flotsamlaw15_ReachLeast⟩
noncomputable def flotsamlaw15_ReachLeast_L0 : LoopSum := { hc := ⟨[], [3, 7, 8, 9, 10], [], [], [0], [336, 400, 528], 576⟩, h := ⟨[(3, (.pvar 0 [])), (7, (.row 336)), (8, (.row 400)), (9, (.row 528)), (10, (.d cI))], [(0, (.d cHeap))], [(336, cI, true), (400, cI, true), (528, cI, true)], 576⟩, xid := 0, oc := ⟨[], [3, 7, 8, 9], [], [], [0], [336, 400, 528], 576⟩, o := ⟨[(3, (.pvar 0 [])), (7, (.row 336)), (8, (.row 400)), (9, (.row 528))], [(0, (.d cHeap))], [(336, cI, true), (400, cI, true), (528, cI, true)], 576⟩, rc := ⟨[], [6], [], [], [], [], 576⟩, r := ⟨[(6, (.d .bool))], [], [], 576⟩, F := flotsamlaw15_ReachLeast_l0 }
noncomputable def flotsamlaw15_ReachLeast_L1 : LoopSum := { hc := ⟨[], [3, 7, 8, 9, 11, 12], [(.tmp 11, cVal)], [], [0], [336, 400, 528], 608⟩, h := ⟨[(3, (.pvar 0 [])), (7, (.row 336)), (8, (.row 400)), (9, (.row 528)), (11, (.row 608)), (12, (.d cI))], [(0, (.d cHeap))], [(336, cI, true), (400, cI, true), (528, cI, true), (608, cVal, true)], 609⟩, xid := 2, oc := ⟨[], [3, 7, 8, 9, 11], [(.tmp 11, cVal)], [], [0], [336, 400, 528], 608⟩, o := ⟨[(3, (.pvar 0 [])), (7, (.row 336)), (8, (.row 400)), (9, (.row 528)), (11, (.row 608))], [(0, (.d cHeap))], [(336, cI, true), (400, cI, true), (528, cI, true), (608, cVal, true)], 609⟩, rc := ⟨[], [6], [], [], [], [], 608⟩, r := ⟨[(6, (.d .bool))], [], [], 608⟩, F := flotsamlaw15_ReachLeast_l1 }
noncomputable def flotsamlaw15_ReachLeast_L2 : LoopSum := { hc := ⟨[], [3, 7, 8, 9, 11, 13], [], [], [0], [336, 400, 528, 608], 625⟩, h := ⟨[(3, (.pvar 0 [])), (7, (.row 336)), (8, (.row 400)), (9, (.row 528)), (11, (.row 608)), (13, (.d cI))], [(0, (.d cHeap))], [(336, cI, true), (400, cI, true), (528, cI, true), (608, cVal, true)], 625⟩, xid := 4, oc := ⟨[], [3, 7, 9, 11], [], [], [0], [336, 528, 608], 625⟩, o := ⟨[(3, (.pvar 0 [])), (7, (.row 336)), (9, (.row 528)), (11, (.row 608))], [(0, (.d cHeap))], [(336, cI, true), (528, cI, true), (608, cVal, true)], 625⟩, rc := ⟨[], [6], [], [], [], [], 625⟩, r := ⟨[(6, (.d .bool))], [], [], 625⟩, F := flotsamlaw15_ReachLeast_l2 }
noncomputable def flotsamlaw15_ReachLeast_S : List (Nat × Sum) := [(16, flotsamref08_Ints_sm), (17, flotsamref08_In_sm), (20, flotsamref07_Form_sm), (26, flotsamlaw15_awake_sm), (27, reach_From_sm), (28, reach_Words_sm)]
noncomputable def flotsamlaw15_ReachLeast_fl : List (Nat × Func) := []
noncomputable def flotsamlaw15_ReachLeast_es : List AE := [⟨8, 7, 0, 0, flotsamlaw15_ReachLeast_L0⟩, ⟨8, 7, 0, 2, flotsamlaw15_ReachLeast_L1⟩, ⟨8, 7, 0, 4, flotsamlaw15_ReachLeast_L2⟩]
theorem flotsamlaw15_ReachLeast_den0 : (fun x => denStep TEv (look1 flotsamlaw15_ReachLeast_S) (look1 flotsamlaw15_ReachLeast_fl) (annOf flotsamlaw15_ReachLeast_es) 8 7 Go.Proofs.Tryd.f7.ntmps 0 (cat (bodyOf Go.Proofs.Tryd.f7) [true, true, true, true, true, false, true, false, false]) flotsamlaw15_ReachLeast_L0 x) = flotsamlaw15_ReachLeast_s0 := by kernel_rfl
theorem flotsamlaw15_ReachLeast_den1 : (fun x => denStep TEv (look1 flotsamlaw15_ReachLeast_S) (look1 flotsamlaw15_ReachLeast_fl) (annOf flotsamlaw15_ReachLeast_es) 8 7 Go.Proofs.Tryd.f7.ntmps 0 (cat (bodyOf Go.Proofs.Tryd.f7) [true, true, true, true, true, true, true, false, true, false, false]) flotsamlaw15_ReachLeast_L1 x) = flotsamlaw15_ReachLeast_s1 := by kernel_rfl
theorem flotsamlaw15_ReachLeast_den2 : (fun x => denStep TEv (look1 flotsamlaw15_ReachLeast_S) (look1 flotsamlaw15_ReachLeast_fl) (annOf flotsamlaw15_ReachLeast_es) 8 7 Go.Proofs.Tryd.f7.ntmps 0 (cat (bodyOf Go.Proofs.Tryd.f7) [true, true, true, true, true, true, true, true, false, true, false, false]) flotsamlaw15_ReachLeast_L2 x) = flotsamlaw15_ReachLeast_s2 := by kernel_rfl
theorem flotsamlaw15_ReachLeast_den : (fun x => denFun TEv (look1 flotsamlaw15_ReachLeast_S) (look1 flotsamlaw15_ReachLeast_fl) (annOf flotsamlaw15_ReachLeast_es) 8 7 Go.Proofs.Tryd.f7 flotsamlaw15_ReachLeast_sm.a flotsamlaw15_ReachLeast_sm.r x) = flotsamlaw15_ReachLeast_sm.F := by kernel_rfl
theorem flotsamlaw15_ReachLeast_ok0 : AEok Go.Proofs.Tryd.prog TEv (look1 flotsamlaw15_ReachLeast_S) (look1 flotsamlaw15_ReachLeast_fl) (annOf flotsamlaw15_ReachLeast_es) ⟨8, 7, 0, 0, flotsamlaw15_ReachLeast_L0⟩ := aeok_of 9223372036854775808 Go.Proofs.Tryd.func7 (by kernel_rfl) flotsamlaw15_ReachLeast_den0 (by kernel_rfl)
theorem flotsamlaw15_ReachLeast_ok1 : AEok Go.Proofs.Tryd.prog TEv (look1 flotsamlaw15_ReachLeast_S) (look1 flotsamlaw15_ReachLeast_fl) (annOf flotsamlaw15_ReachLeast_es) ⟨8, 7, 0, 2, flotsamlaw15_ReachLeast_L1⟩ := aeok_of 9223372036854775808 Go.Proofs.Tryd.func7 (by kernel_rfl) flotsamlaw15_ReachLeast_den1 (by kernel_rfl)
theorem flotsamlaw15_ReachLeast_ok2 : AEok Go.Proofs.Tryd.prog TEv (look1 flotsamlaw15_ReachLeast_S) (look1 flotsamlaw15_ReachLeast_fl) (annOf flotsamlaw15_ReachLeast_es) ⟨8, 7, 0, 4, flotsamlaw15_ReachLeast_L2⟩ := aeok_of 9223372036854775808 Go.Proofs.Tryd.func7 (by kernel_rfl) flotsamlaw15_ReachLeast_den2 (by kernel_rfl)
theorem flotsamlaw15_ReachLeast_sem : SemOf Go.Proofs.Tryd.prog 7 flotsamlaw15_ReachLeast_sm :=
  semMk teOk (sl := flotsamlaw15_ReachLeast_S) (all_cons flotsamref08_Ints_sem (all_cons flotsamref08_In_sem (all_cons flotsamref07_Form_sem (all_cons flotsamlaw15_awake_sem (all_cons reach_From_sem (all_cons reach_Words_sem all_nil)))))) (fl := flotsamlaw15_ReachLeast_fl) (all_nil) (es := flotsamlaw15_ReachLeast_es) Go.Proofs.Tryd.func7 (by kernel_rfl) rfl (rng_none (by kernel_rfl) (by kernel_rfl)) (all_cons flotsamlaw15_ReachLeast_ok0 (all_cons flotsamlaw15_ReachLeast_ok1 (all_cons flotsamlaw15_ReachLeast_ok2 (all_nil)))) rfl flotsamlaw15_ReachLeast_den

/-! ### flotsam/object.place -/
def object_place_r (a0 : Heap) (a1 : Int) (a2 : Int) : Option Val :=
  (object_Get (a0, a1, ())).bind fun y1 =>
  bif !y1.2.1 then
    some (0, 1, ())
  else
  bif decide (a2 < 0) then
    some (0, 4, ())
  else
  bif decide (a2 ≥ y1.1.2.2.2.1) then
    some (0, 4, ())
  else
  some (wi64 ((wi64 (a1 + 1)) + a2), 0, ())
def object_place (x : Heap × Val) : Option Val := object_place_r x.1 x.2.1 x.2.2.1
noncomputable def object_place_sm : Sum := ⟨(.cons cHeap cVal), (.cons (.d cI) (.cons (.d cI) .nil)), object_place⟩
noncomputable def object_place_S : List (Nat × Sum) := [(53, object_Get_sm)]
noncomputable def object_place_fl : List (Nat × Func) := []
noncomputable def object_place_es : List AE := []
theorem object_place_den : (fun x => denFun TEv (look1 object_place_S) (look1 object_place_fl) (annOf object_place_es) 8 97 Go.Proofs.Tryd.f97 object_place_sm.a object_place_sm.r x) = object_place_sm.F := by kernel_rfl
theorem object_place_sem : SemOf Go.Proofs.Tryd.prog 97 object_place_sm :=
  semMk teOk (sl := object_place_S) (all_cons object_Get_sem all_nil) (fl := object_place_fl) (all_nil) (es := object_place_es) Go.Proofs.Tryd.func97 (by kernel_rfl) rfl (rng_none (by kernel_rfl) (by kernel_rfl)) (all_nil) rfl object_place_den

/-! ### flotsam/object.Field -/
def object_Field_r (a0 : Heap) (a1 : Int) (a2 : Int) : Option (Val × Int × Unit) :=
  (object_place (a0, a1, a2, ())).bind fun y1 =>
  bif y1.2.1 != 0 then
    some ((0, 0, ()), y1.2.1, ())
  else
  bif decide (0 ≤ y1.1) then
    bif decide (y1.1 < (a0.1.length : Int)) then
      (word_Get (a0.1.getD y1.1.toNat 0, ())).bind fun y2 =>
      some ((y2.1.1, y2.1.2.1, ()), 0, ())
    else none
  else none
def object_Field (x : Heap × Val) : Option (Val × Int × Unit) := object_Field_r x.1 x.2.1 x.2.2.1
noncomputable def object_Field_sm : Sum := ⟨(.cons cHeap cVal), (.cons (.cons (.d cI) (.cons (.d cI) .nil)) (.cons (.d cI) .nil)), object_Field⟩
noncomputable def object_Field_S : List (Nat × Sum) := [(83, word_Get_sm), (97, object_place_sm)]
noncomputable def object_Field_fl : List (Nat × Func) := []
noncomputable def object_Field_es : List AE := []
theorem object_Field_den : (fun x => denFun TEv (look1 object_Field_S) (look1 object_Field_fl) (annOf object_Field_es) 8 64 Go.Proofs.Tryd.f64 object_Field_sm.a object_Field_sm.r x) = object_Field_sm.F := by kernel_rfl
theorem object_Field_sem : SemOf Go.Proofs.Tryd.prog 64 object_Field_sm :=
  semMk teOk (sl := object_Field_S) (all_cons word_Get_sem (all_cons object_place_sem all_nil)) (fl := object_Field_fl) (all_nil) (es := object_Field_es) Go.Proofs.Tryd.func64 (by kernel_rfl) rfl (rng_none (by kernel_rfl) (by kernel_rfl)) (all_nil) rfl object_Field_den

/-! ### flotsam/object.with -/
def object_with_r (a0 : Heap) (a1 : Int) (a2 : Int) : Option (Heap × Unit) :=
  (slices_Clone_uint64 (a0.1, ())).bind fun y1 =>
  (slices_Clone_api_Span (a0.2.1, ())).bind fun y2 =>
  bif decide (0 ≤ a1) then
    bif decide (a1 < (y1.1.length : Int)) then
      some ((y1.1.set a1.toNat a2, y2.1, a0.2.2), ())
    else none
  else none
def object_with (x : Heap × Int × Int × Unit) : Option (Heap × Unit) := object_with_r x.1 x.2.1 x.2.2.1
noncomputable def object_with_sm : Sum := ⟨(.cons cHeap (.cons cI (.cons (.int .u64) .nil))), (.cons (.cons (.own (.int .u64)) (.cons (.own cSpan) (.d (.cons .bool .nil)))) .nil), object_with⟩
noncomputable def object_with_S : List (Nat × Sum) := [(118, slices_Clone_uint64_sm), (119, slices_Clone_api_Span_sm)]
noncomputable def object_with_fl : List (Nat × Func) := []
noncomputable def object_with_es : List AE := []
theorem object_with_den : (fun x => denFun TEv (look1 object_with_S) (look1 object_with_fl) (annOf object_with_es) 8 101 Go.Proofs.Tryd.f101 object_with_sm.a object_with_sm.r x) = object_with_sm.F := by kernel_rfl
theorem object_with_sem : SemOf Go.Proofs.Tryd.prog 101 object_with_sm :=
  semMk teOk (sl := object_with_S) (all_cons slices_Clone_uint64_sem (all_cons slices_Clone_api_Span_sem all_nil)) (fl := object_with_fl) (all_nil) (es := object_with_es) Go.Proofs.Tryd.func101 (by kernel_rfl) rfl (rng_none (by kernel_rfl) (by kernel_rfl)) (all_nil) rfl object_with_den

/-! ### flotsam/object.Paint -/
def object_Paint_r (a0 : Heap) (a1 : Int) : Option (Heap × Bool × Unit) :=
  (object_Get (a0, a1, ())).bind fun y1 =>
  bif !y1.2.1 then
    some (a0, false, ())
  else
  (header_Put ((y1.1.1, a0.2.2.1, y1.1.2.2.1, y1.1.2.2.2.1, ()), ())).bind fun y2 =>
  (object_with (a0, a1, y2.1, ())).bind fun y3 =>
  some ((y3.1.1, y3.1.2.1, y3.1.2.2), true, ())
def object_Paint (x : Heap × Int × Unit) : Option (Heap × Bool × Unit) := object_Paint_r x.1 x.2.1
noncomputable def object_Paint_sm : Sum := ⟨(.cons cHeap (.cons cI .nil)), (.cons (.d cHeap) (.cons (.d .bool) .nil)), object_Paint⟩
noncomputable def object_Paint_S : List (Nat × Sum) := [(53, object_Get_sm), (100, header_Put_sm), (101, object_with_sm)]
noncomputable def object_Paint_fl : List (Nat × Func) := []
noncomputable def object_Paint_es : List AE := []
theorem object_Paint_den : (fun x => denFun TEv (look1 object_Paint_S) (look1 object_Paint_fl) (annOf object_Paint_es) 8 76 Go.Proofs.Tryd.f76 object_Paint_sm.a object_Paint_sm.r x) = object_Paint_sm.F := by kernel_rfl
theorem object_Paint_sem : SemOf Go.Proofs.Tryd.prog 76 object_Paint_sm :=
  semMk teOk (sl := object_Paint_S) (all_cons object_Get_sem (all_cons header_Put_sem (all_cons object_with_sem all_nil))) (fl := object_Paint_fl) (all_nil) (es := object_Paint_es) Go.Proofs.Tryd.func76 (by kernel_rfl) rfl (rng_none (by kernel_rfl) (by kernel_rfl)) (all_nil) rfl object_Paint_den

/-! ### flotsam/grey.Push -/
def grey_Push_r (a0 : Grey) (a1 : Int) : Option (Grey × Bool × Unit) :=
  bif decide ((a0.2.1.length : Int) ≥ a0.1) then
    some (a0, false, ())
  else
  bif decide (a1 < 0) then
    some (a0, false, ())
  else
  bif (a0.2.1.length : Int) == (a0.2.1.length : Int) then
    bif decide (0 ≤ (a0.2.1.length : Int)) then
      bif decide ((a0.2.1.length : Int) ≤ (a0.2.1.length : Int)) then
        bif ((a0.2.1.drop 0).take ((a0.2.1.length : Int).toNat - 0)).isEmpty || true then
          bif decide ((((a0.2.1.drop 0).take ((a0.2.1.length : Int).toNat - 0)).length + 1) * 8 ≤ 140737488355328) then
            some ((a0.1, ((a0.2.1.drop 0).take ((a0.2.1.length : Int).toNat - 0)) ++ [a1], a0.2.2), true, ())
          else none
        else none
      else none
    else none
  else none
def grey_Push (x : Grey × Int × Unit) : Option (Grey × Bool × Unit) := grey_Push_r x.1 x.2.1
noncomputable def grey_Push_sm : Sum := ⟨(.cons cGrey (.cons cI .nil)), (.cons (.d cGrey) (.cons (.d .bool) .nil)), grey_Push⟩
noncomputable def grey_Push_S : List (Nat × Sum) := []
noncomputable def grey_Push_fl : List (Nat × Func) := []
noncomputable def grey_Push_es : List AE := []
theorem grey_Push_den : (fun x => denFun TEv (look1 grey_Push_S) (look1 grey_Push_fl) (annOf grey_Push_es) 8 77 Go.Proofs.Tryd.f77 grey_Push_sm.a grey_Push_sm.r x) = grey_Push_sm.F := by kernel_rfl
theorem grey_Push_sem : SemOf Go.Proofs.Tryd.prog 77 grey_Push_sm :=
  semMk teOk (sl := grey_Push_S) (all_nil) (fl := grey_Push_fl) (all_nil) (es := grey_Push_es) Go.Proofs.Tryd.func77 (by kernel_rfl) rfl (rng_none (by kernel_rfl) (by kernel_rfl)) (all_nil) rfl grey_Push_den

/-! ### flotsam/shade.Shade -/
def shade_Shade_r (a0 : Heap) (a1 : Grey) (a2 : Val) : Option (Heap × Grey × Bool × Unit) :=
  bif a2.1 != 2 then
    some (a0, a1, false, ())
  else
  (object_Black (a0, a2.2.1, ())).bind fun y1 =>
  bif y1.1 then
    some (a0, a1, false, ())
  else
  (object_Paint (a0, a2.2.1, ())).bind fun y2 =>
  bif !y2.2.1 then
    some (a0, a1, false, ())
  else
  (grey_Push (a1, a2.2.1, ())).bind fun y3 =>
  some (y2.1, y3.1, !y3.2.1, ())
def shade_Shade (x : Heap × Grey × Val × Unit) : Option (Heap × Grey × Bool × Unit) := shade_Shade_r x.1 x.2.1 x.2.2.1
noncomputable def shade_Shade_sm : Sum := ⟨(.cons cHeap (.cons cGrey (.cons cVal .nil))), (.cons (.d cHeap) (.cons (.d cGrey) (.cons (.d .bool) .nil))), shade_Shade⟩
noncomputable def shade_Shade_S : List (Nat × Sum) := [(71, object_Black_sm), (76, object_Paint_sm), (77, grey_Push_sm)]
noncomputable def shade_Shade_fl : List (Nat × Func) := []
noncomputable def shade_Shade_es : List AE := []
theorem shade_Shade_den : (fun x => denFun TEv (look1 shade_Shade_S) (look1 shade_Shade_fl) (annOf shade_Shade_es) 8 45 Go.Proofs.Tryd.f45 shade_Shade_sm.a shade_Shade_sm.r x) = shade_Shade_sm.F := by kernel_rfl
theorem shade_Shade_sem : SemOf Go.Proofs.Tryd.prog 45 shade_Shade_sm :=
  semMk teOk (sl := shade_Shade_S) (all_cons object_Black_sem (all_cons object_Paint_sem (all_cons grey_Push_sem all_nil))) (fl := shade_Shade_fl) (all_nil) (es := shade_Shade_es) Go.Proofs.Tryd.func45 (by kernel_rfl) rfl (rng_none (by kernel_rfl) (by kernel_rfl)) (all_nil) rfl shade_Shade_den

/-! ### flotsam/grey.Pop -/
def grey_Pop_r (a0 : Grey) : Option (Grey × Int × Bool × Unit) :=
  bif (a0.2.1.length : Int) == 0 then
    some (a0, 0, false, ())
  else
  bif decide (0 ≤ (wi64 ((a0.2.1.length : Int) - 1))) then
    bif decide ((wi64 ((a0.2.1.length : Int) - 1)) < (a0.2.1.length : Int)) then
      bif decide (0 ≤ (wi64 ((a0.2.1.length : Int) - 1))) then
        bif decide ((wi64 ((a0.2.1.length : Int) - 1)) ≤ (a0.2.1.length : Int)) then
          (slices_Clone_int ((a0.2.1.drop 0).take ((wi64 ((a0.2.1.length : Int) - 1)).toNat - 0), ())).bind fun y1 =>
          some ((a0.1, y1.1, a0.2.2), a0.2.1.getD (wi64 ((a0.2.1.length : Int) - 1)).toNat 0, true, ())
        else none
      else none
    else none
  else none
def grey_Pop (x : Grey × Unit) : Option (Grey × Int × Bool × Unit) := grey_Pop_r x.1
noncomputable def grey_Pop_sm : Sum := ⟨(.cons cGrey .nil), (.cons (.d cGrey) (.cons (.d cI) (.cons (.d .bool) .nil))), grey_Pop⟩
noncomputable def grey_Pop_S : List (Nat × Sum) := [(98, slices_Clone_int_sm)]
noncomputable def grey_Pop_fl : List (Nat × Func) := []
noncomputable def grey_Pop_es : List AE := []
theorem grey_Pop_den : (fun x => denFun TEv (look1 grey_Pop_S) (look1 grey_Pop_fl) (annOf grey_Pop_es) 8 66 Go.Proofs.Tryd.f66 grey_Pop_sm.a grey_Pop_sm.r x) = grey_Pop_sm.F := by kernel_rfl
theorem grey_Pop_sem : SemOf Go.Proofs.Tryd.prog 66 grey_Pop_sm :=
  semMk teOk (sl := grey_Pop_S) (all_cons slices_Clone_int_sem all_nil) (fl := grey_Pop_fl) (all_nil) (es := grey_Pop_es) Go.Proofs.Tryd.func66 (by kernel_rfl) rfl (rng_none (by kernel_rfl) (by kernel_rfl)) (all_nil) rfl grey_Pop_den

/-! ### (*flotsam/mark.state).barrier$1 -/
def mark_state_barrier_1_r (a0 : Grey) : Option (Bool × Unit) :=
  some (decide ((a0.2.1.length : Int) > 0), ())
def mark_state_barrier_1 (x : Grey × Unit) : Option (Bool × Unit) := mark_state_barrier_1_r x.1
noncomputable def mark_state_barrier_1_sm : Sum := ⟨(.cons cGrey .nil), (.cons (.d .bool) .nil), mark_state_barrier_1⟩
noncomputable def mark_state_barrier_1_S : List (Nat × Sum) := []
noncomputable def mark_state_barrier_1_fl : List (Nat × Func) := []
noncomputable def mark_state_barrier_1_es : List AE := []
theorem mark_state_barrier_1_den : (fun x => denFun TEv (look1 mark_state_barrier_1_S) (look1 mark_state_barrier_1_fl) (annOf mark_state_barrier_1_es) 8 69 Go.Proofs.Tryd.f69 mark_state_barrier_1_sm.a mark_state_barrier_1_sm.r x) = mark_state_barrier_1_sm.F := by kernel_rfl
theorem mark_state_barrier_1_sem : SemOf Go.Proofs.Tryd.prog 69 mark_state_barrier_1_sm :=
  semMk teOk (sl := mark_state_barrier_1_S) (all_nil) (fl := mark_state_barrier_1_fl) (all_nil) (es := mark_state_barrier_1_es) Go.Proofs.Tryd.func69 (by kernel_rfl) rfl (rng_none (by kernel_rfl) (by kernel_rfl)) (all_nil) rfl mark_state_barrier_1_den

/-! ### flotsam/mark.Step -/
def mark_Step_s0r (v0 : List Grey) (v7 : Int) (v8 : Int) (c0 : Heap) (c16 : Marker) (c32 : Bool × Unit) (c48_0 : Int) (c48_1 : Unit) (c48_2 : Int × Int × Int × Bool × Unit) (c128 : Marker × Heap × Unit) : Option (SRes (.cons (.sl cGrey) (.cons cI (.cons cI (.cons cHeap (.cons cMarker (.cons (.cons .bool .nil) (.cons cI (.cons .nil (.cons (.cons cI (.cons cI (.cons cI (.cons .bool .nil)))) (.cons (.cons cMarker (.cons cHeap .nil)) .nil)))))))))) (.cons cHeap (.cons cMarker (.cons (.cons .bool .nil) (.cons cI (.cons .nil (.cons (.cons cI (.cons cI (.cons cI (.cons .bool .nil)))) (.cons (.cons cMarker (.cons cHeap .nil)) .nil))))))) (.cons cI (.cons cHeap (.cons cMarker (.cons (.cons .bool .nil) (.cons cI (.cons .nil (.cons (.cons cI (.cons cI (.cons cI (.cons .bool .nil)))) (.cons (.cons cMarker (.cons cHeap .nil)) .nil))))))))) :=
  bif decide (v8 < v7) then
    bif decide (0 ≤ v8) then
      bif decide (v8 < (v0.length : Int)) then
        (mark_state_barrier_1 (v0.getD v8.toNat (0, [], ()), ())).bind fun y2 =>
        bif y2.1 then
          some (.fin (.ret (v8, c0, c16, c32, c48_0, c48_1, c48_2, c128, ())))
        else
        some (.next (v0, v7, wi64 (v8 + 1), c0, c16, c32, c48_0, c48_1, c48_2, c128, ()))
      else none
    else none
  else
  some (.fin (.out (c0, c16, c32, c48_0, c48_1, c48_2, c128, ())))
def mark_Step_s0 (x : (List Grey) × Int × Int × Heap × Marker × (Bool × Unit) × Int × Unit × (Int × Int × Int × Bool × Unit) × (Marker × Heap × Unit) × Unit) : Option (SRes (.cons (.sl cGrey) (.cons cI (.cons cI (.cons cHeap (.cons cMarker (.cons (.cons .bool .nil) (.cons cI (.cons .nil (.cons (.cons cI (.cons cI (.cons cI (.cons .bool .nil)))) (.cons (.cons cMarker (.cons cHeap .nil)) .nil)))))))))) (.cons cHeap (.cons cMarker (.cons (.cons .bool .nil) (.cons cI (.cons .nil (.cons (.cons cI (.cons cI (.cons cI (.cons .bool .nil)))) (.cons (.cons cMarker (.cons cHeap .nil)) .nil))))))) (.cons cI (.cons cHeap (.cons cMarker (.cons (.cons .bool .nil) (.cons cI (.cons .nil (.cons (.cons cI (.cons cI (.cons cI (.cons .bool .nil)))) (.cons (.cons cMarker (.cons cHeap .nil)) .nil))))))))) := mark_Step_s0r x.1 x.2.1 x.2.2.1 x.2.2.2.1 x.2.2.2.2.1 x.2.2.2.2.2.1 x.2.2.2.2.2.2.1 x.2.2.2.2.2.2.2.1 x.2.2.2.2.2.2.2.2.1 x.2.2.2.2.2.2.2.2.2.1
def mark_Step_l0 (x : (List Grey) × Int × Int × Heap × Marker × (Bool × Unit) × Int × Unit × (Int × Int × Int × Bool × Unit) × (Marker × Heap × Unit) × Unit) : Option (LRes (.cons cHeap (.cons cMarker (.cons (.cons .bool .nil) (.cons cI (.cons .nil (.cons (.cons cI (.cons cI (.cons cI (.cons .bool .nil)))) (.cons (.cons cMarker (.cons cHeap .nil)) .nil))))))) (.cons cI (.cons cHeap (.cons cMarker (.cons (.cons .bool .nil) (.cons cI (.cons .nil (.cons (.cons cI (.cons cI (.cons cI (.cons .bool .nil)))) (.cons (.cons cMarker (.cons cHeap .nil)) .nil))))))))) := iterL (h := (.cons (.sl cGrey) (.cons cI (.cons cI (.cons cHeap (.cons cMarker (.cons (.cons .bool .nil) (.cons cI (.cons .nil (.cons (.cons cI (.cons cI (.cons cI (.cons .bool .nil)))) (.cons (.cons cMarker (.cons cHeap .nil)) .nil))))))))))) (o := (.cons cHeap (.cons cMarker (.cons (.cons .bool .nil) (.cons cI (.cons .nil (.cons (.cons cI (.cons cI (.cons cI (.cons .bool .nil)))) (.cons (.cons cMarker (.cons cHeap .nil)) .nil)))))))) (r := (.cons cI (.cons cHeap (.cons cMarker (.cons (.cons .bool .nil) (.cons cI (.cons .nil (.cons (.cons cI (.cons cI (.cons cI (.cons .bool .nil)))) (.cons (.cons cMarker (.cons cHeap .nil)) .nil))))))))) mark_Step_s0 9223372036854775808 x
def mark_Step_s1r (v16 : Int) (v17 : Int) (c0 : Heap) (c16 : Marker) (c32 : Bool × Unit) (c48_0 : Int) (c48_1 : Unit) (c48_2 : Int × Int × Int × Bool × Unit) (c128 : Marker × Heap × Unit) (r1888 : List Int) : Option (SRes (.cons cI (.cons cI (.cons cHeap (.cons cMarker (.cons (.cons .bool .nil) (.cons cI (.cons .nil (.cons (.cons cI (.cons cI (.cons cI (.cons .bool .nil)))) (.cons (.cons cMarker (.cons cHeap .nil)) (.cons (.sl cI) .nil)))))))))) (.cons cHeap (.cons cMarker (.cons (.cons .bool .nil) (.cons cI (.cons .nil (.cons (.cons cI (.cons cI (.cons cI (.cons .bool .nil)))) (.cons (.cons cMarker (.cons cHeap .nil)) .nil))))))) (.cons .bool (.cons cHeap (.cons cMarker (.cons (.cons .bool .nil) (.cons cI (.cons .nil (.cons (.cons cI (.cons cI (.cons cI (.cons .bool .nil)))) (.cons (.cons cMarker (.cons cHeap .nil)) .nil))))))))) :=
  bif decide (v17 < v16) then
    bif decide (0 ≤ v17) then
      bif decide (v17 < (r1888.length : Int)) then
        bif decide ((r1888.getD v17.toNat 0) ≥ c128.1.2.2.2.2.2.1) then
          (object_Black (c128.2.1, r1888.getD v17.toNat 0, ())).bind fun y5 =>
          bif y5.1 then
            (object_Get (c128.2.1, r1888.getD v17.toNat 0, ())).bind fun y6 =>
            bif y6.2.1 then
              bif decide (y6.1.2.2.2.1 > 0) then
                some (.fin (.ret (true, c0, c16, c32, c48_0, c48_1, c48_2, ((c128.1.1, c128.1.2.1, c128.1.2.2.1, r1888.getD v17.toNat 0, 0, wi64 ((r1888.getD v17.toNat 0) + 1), c128.1.2.2.2.2.2.2), c128.2), ())))
              else
              some (.fin (.ret (true, c0, c16, c32, c48_0, c48_1, c48_2, ((c128.1.1, c128.1.2.1, c128.1.2.2.1, c128.1.2.2.2.1, c128.1.2.2.2.2.1, wi64 ((r1888.getD v17.toNat 0) + 1), c128.1.2.2.2.2.2.2), c128.2), ())))
            else
            some (.fin (.ret (true, c0, c16, c32, c48_0, c48_1, c48_2, ((c128.1.1, c128.1.2.1, c128.1.2.2.1, c128.1.2.2.2.1, c128.1.2.2.2.2.1, wi64 ((r1888.getD v17.toNat 0) + 1), c128.1.2.2.2.2.2.2), c128.2), ())))
          else
          some (.next (v16, wi64 (v17 + 1), c0, c16, c32, c48_0, c48_1, c48_2, c128, r1888, ()))
        else
        some (.next (v16, wi64 (v17 + 1), c0, c16, c32, c48_0, c48_1, c48_2, c128, r1888, ()))
      else none
    else none
  else
  some (.fin (.out (c0, c16, c32, c48_0, c48_1, c48_2, c128, ())))
def mark_Step_s1 (x : Int × Int × Heap × Marker × (Bool × Unit) × Int × Unit × (Int × Int × Int × Bool × Unit) × (Marker × Heap × Unit) × (List Int) × Unit) : Option (SRes (.cons cI (.cons cI (.cons cHeap (.cons cMarker (.cons (.cons .bool .nil) (.cons cI (.cons .nil (.cons (.cons cI (.cons cI (.cons cI (.cons .bool .nil)))) (.cons (.cons cMarker (.cons cHeap .nil)) (.cons (.sl cI) .nil)))))))))) (.cons cHeap (.cons cMarker (.cons (.cons .bool .nil) (.cons cI (.cons .nil (.cons (.cons cI (.cons cI (.cons cI (.cons .bool .nil)))) (.cons (.cons cMarker (.cons cHeap .nil)) .nil))))))) (.cons .bool (.cons cHeap (.cons cMarker (.cons (.cons .bool .nil) (.cons cI (.cons .nil (.cons (.cons cI (.cons cI (.cons cI (.cons .bool .nil)))) (.cons (.cons cMarker (.cons cHeap .nil)) .nil))))))))) := mark_Step_s1r x.1 x.2.1 x.2.2.1 x.2.2.2.1 x.2.2.2.2.1 x.2.2.2.2.2.1 x.2.2.2.2.2.2.1 x.2.2.2.2.2.2.2.1 x.2.2.2.2.2.2.2.2.1 x.2.2.2.2.2.2.2.2.2.1
def mark_Step_l1 (x : Int × Int × Heap × Marker × (Bool × Unit) × Int × Unit × (Int × Int × Int × Bool × Unit) × (Marker × Heap × Unit) × (List Int) × Unit) : Option (LRes (.cons cHeap (.cons cMarker (.cons (.cons .bool .nil) (.cons cI (.cons .nil (.cons (.cons cI (.cons cI (.cons cI (.cons .bool .nil)))) (.cons (.cons cMarker (.cons cHeap .nil)) .nil))))))) (.cons .bool (.cons cHeap (.cons cMarker (.cons (.cons .bool .nil) (.cons cI (.cons .nil (.cons (.cons cI (.cons cI (.cons cI (.cons .bool .nil)))) (.cons (.cons cMarker (.cons cHeap .nil)) .nil))))))))) := iterL (h := (.cons cI (.cons cI (.cons cHeap (.cons cMarker (.cons (.cons .bool .nil) (.cons cI (.cons .nil (.cons (.cons cI (.cons cI (.cons cI (.cons .bool .nil)))) (.cons (.cons cMarker (.cons cHeap .nil)) (.cons (.sl cI) .nil))))))))))) (o := (.cons cHeap (.cons cMarker (.cons (.cons .bool .nil) (.cons cI (.cons .nil (.cons (.cons cI (.cons cI (.cons cI (.cons .bool .nil)))) (.cons (.cons cMarker (.cons cHeap .nil)) .nil)))))))) (r := (.cons .bool (.cons cHeap (.cons cMarker (.cons (.cons .bool .nil) (.cons cI (.cons .nil (.cons (.cons cI (.cons cI (.cons cI (.cons .bool .nil)))) (.cons (.cons cMarker (.cons cHeap .nil)) .nil))))))))) mark_Step_s1 9223372036854775808 x
def mark_Step_s2r (v16 : Int) (v17 : Int) (c0 : Heap) (c16 : Marker) (c32 : Bool × Unit) (c48_0 : Int) (c48_1 : Unit) (c48_2 : Int × Int × Int × Bool × Unit) (c128 : Marker × Heap × Unit) (r1872 : List Int) : Option (SRes (.cons cI (.cons cI (.cons cHeap (.cons cMarker (.cons (.cons .bool .nil) (.cons cI (.cons .nil (.cons (.cons cI (.cons cI (.cons cI (.cons .bool .nil)))) (.cons (.cons cMarker (.cons cHeap .nil)) (.cons (.sl cI) .nil)))))))))) (.cons cHeap (.cons cMarker (.cons (.cons .bool .nil) (.cons cI (.cons .nil (.cons (.cons cI (.cons cI (.cons cI (.cons .bool .nil)))) (.cons (.cons cMarker (.cons cHeap .nil)) .nil))))))) (.cons .bool (.cons cHeap (.cons cMarker (.cons (.cons .bool .nil) (.cons cI (.cons .nil (.cons (.cons cI (.cons cI (.cons cI (.cons .bool .nil)))) (.cons (.cons cMarker (.cons cHeap .nil)) .nil))))))))) :=
  bif decide (v17 < v16) then
    bif decide (0 ≤ v17) then
      bif decide (v17 < (r1872.length : Int)) then
        bif decide ((r1872.getD v17.toNat 0) ≥ c128.1.2.2.2.2.2.1) then
          (object_Black (c128.2.1, r1872.getD v17.toNat 0, ())).bind fun y11 =>
          bif y11.1 then
            (object_Get (c128.2.1, r1872.getD v17.toNat 0, ())).bind fun y12 =>
            bif y12.2.1 then
              bif decide (y12.1.2.2.2.1 > 0) then
                some (.fin (.ret (true, c0, c16, c32, c48_0, c48_1, c48_2, ((c128.1.1, c128.1.2.1, c128.1.2.2.1, r1872.getD v17.toNat 0, 0, wi64 ((r1872.getD v17.toNat 0) + 1), c128.1.2.2.2.2.2.2), c128.2), ())))
              else
              some (.fin (.ret (true, c0, c16, c32, c48_0, c48_1, c48_2, ((c128.1.1, c128.1.2.1, c128.1.2.2.1, c128.1.2.2.2.1, c128.1.2.2.2.2.1, wi64 ((r1872.getD v17.toNat 0) + 1), c128.1.2.2.2.2.2.2), c128.2), ())))
            else
            some (.fin (.ret (true, c0, c16, c32, c48_0, c48_1, c48_2, ((c128.1.1, c128.1.2.1, c128.1.2.2.1, c128.1.2.2.2.1, c128.1.2.2.2.2.1, wi64 ((r1872.getD v17.toNat 0) + 1), c128.1.2.2.2.2.2.2), c128.2), ())))
          else
          some (.next (v16, wi64 (v17 + 1), c0, c16, c32, c48_0, c48_1, c48_2, c128, r1872, ()))
        else
        some (.next (v16, wi64 (v17 + 1), c0, c16, c32, c48_0, c48_1, c48_2, c128, r1872, ()))
      else none
    else none
  else
  some (.fin (.out (c0, c16, c32, c48_0, c48_1, c48_2, c128, ())))
def mark_Step_s2 (x : Int × Int × Heap × Marker × (Bool × Unit) × Int × Unit × (Int × Int × Int × Bool × Unit) × (Marker × Heap × Unit) × (List Int) × Unit) : Option (SRes (.cons cI (.cons cI (.cons cHeap (.cons cMarker (.cons (.cons .bool .nil) (.cons cI (.cons .nil (.cons (.cons cI (.cons cI (.cons cI (.cons .bool .nil)))) (.cons (.cons cMarker (.cons cHeap .nil)) (.cons (.sl cI) .nil)))))))))) (.cons cHeap (.cons cMarker (.cons (.cons .bool .nil) (.cons cI (.cons .nil (.cons (.cons cI (.cons cI (.cons cI (.cons .bool .nil)))) (.cons (.cons cMarker (.cons cHeap .nil)) .nil))))))) (.cons .bool (.cons cHeap (.cons cMarker (.cons (.cons .bool .nil) (.cons cI (.cons .nil (.cons (.cons cI (.cons cI (.cons cI (.cons .bool .nil)))) (.cons (.cons cMarker (.cons cHeap .nil)) .nil))))))))) := mark_Step_s2r x.1 x.2.1 x.2.2.1 x.2.2.2.1 x.2.2.2.2.1 x.2.2.2.2.2.1 x.2.2.2.2.2.2.1 x.2.2.2.2.2.2.2.1 x.2.2.2.2.2.2.2.2.1 x.2.2.2.2.2.2.2.2.2.1
def mark_Step_l2 (x : Int × Int × Heap × Marker × (Bool × Unit) × Int × Unit × (Int × Int × Int × Bool × Unit) × (Marker × Heap × Unit) × (List Int) × Unit) : Option (LRes (.cons cHeap (.cons cMarker (.cons (.cons .bool .nil) (.cons cI (.cons .nil (.cons (.cons cI (.cons cI (.cons cI (.cons .bool .nil)))) (.cons (.cons cMarker (.cons cHeap .nil)) .nil))))))) (.cons .bool (.cons cHeap (.cons cMarker (.cons (.cons .bool .nil) (.cons cI (.cons .nil (.cons (.cons cI (.cons cI (.cons cI (.cons .bool .nil)))) (.cons (.cons cMarker (.cons cHeap .nil)) .nil))))))))) := iterL (h := (.cons cI (.cons cI (.cons cHeap (.cons cMarker (.cons (.cons .bool .nil) (.cons cI (.cons .nil (.cons (.cons cI (.cons cI (.cons cI (.cons .bool .nil)))) (.cons (.cons cMarker (.cons cHeap .nil)) (.cons (.sl cI) .nil))))))))))) (o := (.cons cHeap (.cons cMarker (.cons (.cons .bool .nil) (.cons cI (.cons .nil (.cons (.cons cI (.cons cI (.cons cI (.cons .bool .nil)))) (.cons (.cons cMarker (.cons cHeap .nil)) .nil)))))))) (r := (.cons .bool (.cons cHeap (.cons cMarker (.cons (.cons .bool .nil) (.cons cI (.cons .nil (.cons (.cons cI (.cons cI (.cons cI (.cons .bool .nil)))) (.cons (.cons cMarker (.cons cHeap .nil)) .nil))))))))) mark_Step_s2 9223372036854775808 x
def mark_Step_r (a0 : Heap) (a1 : Marker) : Option (Heap × Marker × Bool × Unit) :=
  bif a1.2.2.2.1 == (-1) then
    (grey_Pop (a1.1, ())).bind fun y1 =>
    bif !y1.2.2.1 then
      (mark_Step_l0 (a1.2.1, (a1.2.1.length : Int), 0, a0, a1, (false, ()), 0, (), (0, 0, 0, false, ()), (a1, a0, ()), ())).bind fun s3 => match s3 with
      | .out s3 =>
        bif (s3.2.2.2.2.2.2.1.1.2.2.1.length : Int) == 0 then
          bif s3.2.2.2.2.2.2.1.1.2.2.2.2.2.1 == (-1) then
            bif !s3.2.2.2.2.2.2.1.1.2.2.2.2.2.2.1 then
              some (s3.1, s3.2.1, true, ())
            else
            some (s3.2.2.2.2.2.2.1.2.1, (s3.2.2.2.2.2.2.1.1.1, s3.2.2.2.2.2.2.1.1.2.1, s3.2.2.2.2.2.2.1.1.2.2.1, s3.2.2.2.2.2.2.1.1.2.2.2.1, s3.2.2.2.2.2.2.1.1.2.2.2.2.1, 0, false, s3.2.2.2.2.2.2.1.1.2.2.2.2.2.2.2), false, ())
          else
          (object_List (s3.2.2.2.2.2.2.1.2.1, ())).bind fun y4 =>
          (mark_Step_l1 ((y4.1.length : Int), 0, s3.1, s3.2.1, s3.2.2.1, s3.2.2.2.1, s3.2.2.2.2.1, s3.2.2.2.2.2.1, s3.2.2.2.2.2.2.1, y4.1, ())).bind fun s7 => match s7 with
          | .out s7 =>
            some (s7.2.2.2.2.2.2.1.2.1, (s7.2.2.2.2.2.2.1.1.1, s7.2.2.2.2.2.2.1.1.2.1, s7.2.2.2.2.2.2.1.1.2.2.1, s7.2.2.2.2.2.2.1.1.2.2.2.1, s7.2.2.2.2.2.2.1.1.2.2.2.2.1, (-1), s7.2.2.2.2.2.2.1.1.2.2.2.2.2.2), false, ())
          | .ret s7 =>
            bif s7.1 then
              some (s7.2.2.2.2.2.2.2.1.2.1, s7.2.2.2.2.2.2.2.1.1, false, ())
            else
            bif !s7.2.2.2.2.2.2.2.1.1.2.2.2.2.2.2.1 then
              some (s7.2.1, s7.2.2.1, true, ())
            else
            some (s7.2.2.2.2.2.2.2.1.2.1, (s7.2.2.2.2.2.2.2.1.1.1, s7.2.2.2.2.2.2.2.1.1.2.1, s7.2.2.2.2.2.2.2.1.1.2.2.1, s7.2.2.2.2.2.2.2.1.1.2.2.2.1, s7.2.2.2.2.2.2.2.1.1.2.2.2.2.1, 0, false, s7.2.2.2.2.2.2.2.1.1.2.2.2.2.2.2.2), false, ())
        else
        bif decide (0 < (s3.2.2.2.2.2.2.1.1.2.2.1.length : Int)) then
          bif decide (1 ≤ (s3.2.2.2.2.2.2.1.1.2.2.1.length : Int)) then
            bif decide ((s3.2.2.2.2.2.2.1.1.2.2.1.length : Int) ≤ (s3.2.2.2.2.2.2.1.1.2.2.1.length : Int)) then
              (slices_Clone_api_Value ((s3.2.2.2.2.2.2.1.1.2.2.1.drop 1).take ((s3.2.2.2.2.2.2.1.1.2.2.1.length : Int).toNat - 1), ())).bind fun y8 =>
              (shade_Shade (s3.2.2.2.2.2.2.1.2.1, s3.2.2.2.2.2.2.1.1.1, s3.2.2.2.2.2.2.1.1.2.2.1.getD 0 (0, 0, ()), ())).bind fun y9 =>
              bif s3.2.2.2.2.2.2.1.1.2.2.2.2.2.2.1 then
                some (y9.1, (y9.2.1, s3.2.2.2.2.2.2.1.1.2.1, y8.1, s3.2.2.2.2.2.2.1.1.2.2.2.1, s3.2.2.2.2.2.2.1.1.2.2.2.2.1, s3.2.2.2.2.2.2.1.1.2.2.2.2.2.1, true, s3.2.2.2.2.2.2.1.1.2.2.2.2.2.2.2), false, ())
              else
              some (y9.1, (y9.2.1, s3.2.2.2.2.2.2.1.1.2.1, y8.1, s3.2.2.2.2.2.2.1.1.2.2.2.1, s3.2.2.2.2.2.2.1.1.2.2.2.2.1, s3.2.2.2.2.2.2.1.1.2.2.2.2.2.1, y9.2.2.1, s3.2.2.2.2.2.2.1.1.2.2.2.2.2.2.2), false, ())
            else none
          else none
        else none
      | .ret s3 =>
        bif decide (s3.1 < 0) then
          bif (s3.2.2.2.2.2.2.2.1.1.2.2.1.length : Int) == 0 then
            bif s3.2.2.2.2.2.2.2.1.1.2.2.2.2.2.1 == (-1) then
              bif !s3.2.2.2.2.2.2.2.1.1.2.2.2.2.2.2.1 then
                some (s3.2.1, s3.2.2.1, true, ())
              else
              some (s3.2.2.2.2.2.2.2.1.2.1, (s3.2.2.2.2.2.2.2.1.1.1, s3.2.2.2.2.2.2.2.1.1.2.1, s3.2.2.2.2.2.2.2.1.1.2.2.1, s3.2.2.2.2.2.2.2.1.1.2.2.2.1, s3.2.2.2.2.2.2.2.1.1.2.2.2.2.1, 0, false, s3.2.2.2.2.2.2.2.1.1.2.2.2.2.2.2.2), false, ())
            else
            (object_List (s3.2.2.2.2.2.2.2.1.2.1, ())).bind fun y10 =>
            (mark_Step_l2 ((y10.1.length : Int), 0, s3.2.1, s3.2.2.1, s3.2.2.2.1, s3.2.2.2.2.1, s3.2.2.2.2.2.1, s3.2.2.2.2.2.2.1, s3.2.2.2.2.2.2.2.1, y10.1, ())).bind fun s13 => match s13 with
            | .out s13 =>
              some (s13.2.2.2.2.2.2.1.2.1, (s13.2.2.2.2.2.2.1.1.1, s13.2.2.2.2.2.2.1.1.2.1, s13.2.2.2.2.2.2.1.1.2.2.1, s13.2.2.2.2.2.2.1.1.2.2.2.1, s13.2.2.2.2.2.2.1.1.2.2.2.2.1, (-1), s13.2.2.2.2.2.2.1.1.2.2.2.2.2.2), false, ())
            | .ret s13 =>
              bif s13.1 then
                some (s13.2.2.2.2.2.2.2.1.2.1, s13.2.2.2.2.2.2.2.1.1, false, ())
              else
              bif !s13.2.2.2.2.2.2.2.1.1.2.2.2.2.2.2.1 then
                some (s13.2.1, s13.2.2.1, true, ())
              else
              some (s13.2.2.2.2.2.2.2.1.2.1, (s13.2.2.2.2.2.2.2.1.1.1, s13.2.2.2.2.2.2.2.1.1.2.1, s13.2.2.2.2.2.2.2.1.1.2.2.1, s13.2.2.2.2.2.2.2.1.1.2.2.2.1, s13.2.2.2.2.2.2.2.1.1.2.2.2.2.1, 0, false, s13.2.2.2.2.2.2.2.1.1.2.2.2.2.2.2.2), false, ())
          else
          bif decide (0 < (s3.2.2.2.2.2.2.2.1.1.2.2.1.length : Int)) then
            bif decide (1 ≤ (s3.2.2.2.2.2.2.2.1.1.2.2.1.length : Int)) then
              bif decide ((s3.2.2.2.2.2.2.2.1.1.2.2.1.length : Int) ≤ (s3.2.2.2.2.2.2.2.1.1.2.2.1.length : Int)) then
                (slices_Clone_api_Value ((s3.2.2.2.2.2.2.2.1.1.2.2.1.drop 1).take ((s3.2.2.2.2.2.2.2.1.1.2.2.1.length : Int).toNat - 1), ())).bind fun y14 =>
                (shade_Shade (s3.2.2.2.2.2.2.2.1.2.1, s3.2.2.2.2.2.2.2.1.1.1, s3.2.2.2.2.2.2.2.1.1.2.2.1.getD 0 (0, 0, ()), ())).bind fun y15 =>
                bif s3.2.2.2.2.2.2.2.1.1.2.2.2.2.2.2.1 then
                  some (y15.1, (y15.2.1, s3.2.2.2.2.2.2.2.1.1.2.1, y14.1, s3.2.2.2.2.2.2.2.1.1.2.2.2.1, s3.2.2.2.2.2.2.2.1.1.2.2.2.2.1, s3.2.2.2.2.2.2.2.1.1.2.2.2.2.2.1, true, s3.2.2.2.2.2.2.2.1.1.2.2.2.2.2.2.2), false, ())
                else
                some (y15.1, (y15.2.1, s3.2.2.2.2.2.2.2.1.1.2.1, y14.1, s3.2.2.2.2.2.2.2.1.1.2.2.2.1, s3.2.2.2.2.2.2.2.1.1.2.2.2.2.1, s3.2.2.2.2.2.2.2.1.1.2.2.2.2.2.1, y15.2.2.1, s3.2.2.2.2.2.2.2.1.1.2.2.2.2.2.2.2), false, ())
              else none
            else none
          else none
        else
        bif decide (0 ≤ s3.1) then
          bif decide (s3.1 < (s3.2.2.2.2.2.2.2.1.1.2.1.length : Int)) then
            (grey_Pop (s3.2.2.2.2.2.2.2.1.1.2.1.getD s3.1.toNat (0, [], ()), ())).bind fun y16 =>
            (slices_Clone_api_Grey (s3.2.2.2.2.2.2.2.1.1.2.1, ())).bind fun y17 =>
            bif decide (0 ≤ s3.1) then
              bif decide (s3.1 < (y17.1.length : Int)) then
                (object_Get (s3.2.2.2.2.2.2.2.1.2.1, y16.2.1, ())).bind fun y18 =>
                bif y18.2.1 then
                  bif decide (y18.1.2.2.2.1 > 0) then
                    some (s3.2.2.2.2.2.2.2.1.2.1, (s3.2.2.2.2.2.2.2.1.1.1, y17.1.set s3.1.toNat y16.1, s3.2.2.2.2.2.2.2.1.1.2.2.1, y16.2.1, 0, s3.2.2.2.2.2.2.2.1.1.2.2.2.2.2), false, ())
                  else
                  some (s3.2.2.2.2.2.2.2.1.2.1, (s3.2.2.2.2.2.2.2.1.1.1, y17.1.set s3.1.toNat y16.1, s3.2.2.2.2.2.2.2.1.1.2.2), false, ())
                else
                some (s3.2.2.2.2.2.2.2.1.2.1, (s3.2.2.2.2.2.2.2.1.1.1, y17.1.set s3.1.toNat y16.1, s3.2.2.2.2.2.2.2.1.1.2.2), false, ())
              else none
            else none
          else none
        else none
    else
    (object_Get (a0, y1.2.1, ())).bind fun y19 =>
    bif y19.2.1 then
      bif decide (y19.1.2.2.2.1 > 0) then
        some (a0, (y1.1, a1.2.1, a1.2.2.1, y1.2.1, 0, a1.2.2.2.2.2), false, ())
      else
      some (a0, (y1.1, a1.2), false, ())
    else
    some (a0, (y1.1, a1.2), false, ())
  else
  (object_Get (a0, a1.2.2.2.1, ())).bind fun y20 =>
  (object_Field (a0, a1.2.2.2.1, a1.2.2.2.2.1, ())).bind fun y21 =>
  (shade_Shade (a0, a1.1, (y21.1.1, y21.1.2.1, ()), ())).bind fun y22 =>
  bif a1.2.2.2.2.2.2.1 then
    bif decide ((wi64 (a1.2.2.2.2.1 + 1)) ≥ y20.1.2.2.2.1) then
      some (y22.1, (y22.2.1, a1.2.1, a1.2.2.1, (-1), 0, a1.2.2.2.2.2.1, true, a1.2.2.2.2.2.2.2), false, ())
    else
    some (y22.1, (y22.2.1, a1.2.1, a1.2.2.1, a1.2.2.2.1, wi64 (a1.2.2.2.2.1 + 1), a1.2.2.2.2.2.1, true, a1.2.2.2.2.2.2.2), false, ())
  else
  bif decide ((wi64 (a1.2.2.2.2.1 + 1)) ≥ y20.1.2.2.2.1) then
    some (y22.1, (y22.2.1, a1.2.1, a1.2.2.1, (-1), 0, a1.2.2.2.2.2.1, y22.2.2.1, a1.2.2.2.2.2.2.2), false, ())
  else
  some (y22.1, (y22.2.1, a1.2.1, a1.2.2.1, a1.2.2.2.1, wi64 (a1.2.2.2.2.1 + 1), a1.2.2.2.2.2.1, y22.2.2.1, a1.2.2.2.2.2.2.2), false, ())
def mark_Step (x : Heap × Marker × Unit) : Option (Heap × Marker × Bool × Unit) := mark_Step_r x.1 x.2.1
noncomputable def mark_Step_sm : Sum := ⟨(.cons cHeap (.cons cMarker .nil)), (.cons (.d cHeap) (.cons (.d cMarker) (.cons (.d .bool) .nil))), mark_Step⟩
noncomputable def mark_Step_L0 : LoopSum := { hc := ⟨[], [0, 1, 7, 8], [], [], [0, 16, 32, 48, 128], [], 1216⟩, h := ⟨[(0, (.d (.sl cGrey))), (1, (.fn 69 .nil .nil)), (7, (.d cI)), (8, (.d cI))], [(0, (.d cHeap)), (16, (.d cMarker)), (32, (.cons .nilsl (.cons .nilsl (.d (.cons .bool .nil))))), (48, (.cons (.cons (.d cI) (.cons .nilsl (.d .nil))) (.cons .nilsl (.cons .nilsl (.d (.cons cI (.cons cI (.cons cI (.cons .bool .nil))))))))), (128, (.d (.cons cMarker (.cons cHeap .nil))))], [], 1216⟩, xid := 0, oc := ⟨[], [], [], [], [0, 16, 32, 48, 128], [], 1216⟩, o := ⟨[], [(0, (.d cHeap)), (16, (.d cMarker)), (32, (.cons .nilsl (.cons .nilsl (.d (.cons .bool .nil))))), (48, (.cons (.cons (.d cI) (.cons .nilsl (.d .nil))) (.cons .nilsl (.cons .nilsl (.d (.cons cI (.cons cI (.cons cI (.cons .bool .nil))))))))), (128, (.d (.cons cMarker (.cons cHeap .nil))))], [], 1216⟩, rc := ⟨[], [4], [], [], [0, 16, 32, 48, 128], [], 1216⟩, r := ⟨[(4, (.d cI))], [(0, (.d cHeap)), (16, (.d cMarker)), (32, (.cons .nilsl (.cons .nilsl (.d (.cons .bool .nil))))), (48, (.cons (.cons (.d cI) (.cons .nilsl (.d .nil))) (.cons .nilsl (.cons .nilsl (.d (.cons cI (.cons cI (.cons cI (.cons .bool .nil))))))))), (128, (.d (.cons cMarker (.cons cHeap .nil))))], [], 1216⟩, F := mark_Step_l0 }
noncomputable def mark_Step_L1 : LoopSum := { hc := ⟨[], [0, 15, 16, 17], [], [], [0, 16, 32, 48, 128], [1888], 1936⟩, h := ⟨[(0, (.pvar 128 [])), (15, (.row 1888)), (16, (.d cI)), (17, (.d cI))], [(0, (.d cHeap)), (16, (.d cMarker)), (32, (.cons .nilsl (.cons .nilsl (.d (.cons .bool .nil))))), (48, (.cons (.cons (.d cI) (.cons .nilsl (.d .nil))) (.cons .nilsl (.cons .nilsl (.d (.cons cI (.cons cI (.cons cI (.cons .bool .nil))))))))), (128, (.d (.cons cMarker (.cons cHeap .nil))))], [(1888, cI, true)], 1936⟩, xid := 0, oc := ⟨[], [0], [], [], [0, 16, 32, 48, 128], [], 1936⟩, o := ⟨[(0, (.pvar 128 []))], [(0, (.d cHeap)), (16, (.d cMarker)), (32, (.cons .nilsl (.cons .nilsl (.d (.cons .bool .nil))))), (48, (.cons (.cons (.d cI) (.cons .nilsl (.d .nil))) (.cons .nilsl (.cons .nilsl (.d (.cons cI (.cons cI (.cons cI (.cons .bool .nil))))))))), (128, (.d (.cons cMarker (.cons cHeap .nil))))], [], 1936⟩, rc := ⟨[], [2], [], [], [0, 16, 32, 48, 128], [], 1936⟩, r := ⟨[(2, (.d .bool))], [(0, (.d cHeap)), (16, (.d cMarker)), (32, (.cons .nilsl (.cons .nilsl (.d (.cons .bool .nil))))), (48, (.cons (.cons (.d cI) (.cons .nilsl (.d .nil))) (.cons .nilsl (.cons .nilsl (.d (.cons cI (.cons cI (.cons cI (.cons .bool .nil))))))))), (128, (.d (.cons cMarker (.cons cHeap .nil))))], [], 1936⟩, F := mark_Step_l1 }
noncomputable def mark_Step_L2 : LoopSum := { hc := ⟨[], [0, 15, 16, 17], [], [], [0, 16, 32, 48, 128], [1872], 1920⟩, h := ⟨[(0, (.pvar 128 [])), (15, (.row 1872)), (16, (.d cI)), (17, (.d cI))], [(0, (.d cHeap)), (16, (.d cMarker)), (32, (.cons .nilsl (.cons .nilsl (.d (.cons .bool .nil))))), (48, (.cons (.cons (.d cI) (.cons .nilsl (.d .nil))) (.cons .nilsl (.cons .nilsl (.d (.cons cI (.cons cI (.cons cI (.cons .bool .nil))))))))), (128, (.d (.cons cMarker (.cons cHeap .nil))))], [(1872, cI, true)], 1920⟩, xid := 0, oc := ⟨[], [0], [], [], [0, 16, 32, 48, 128], [], 1920⟩, o := ⟨[(0, (.pvar 128 []))], [(0, (.d cHeap)), (16, (.d cMarker)), (32, (.cons .nilsl (.cons .nilsl (.d (.cons .bool .nil))))), (48, (.cons (.cons (.d cI) (.cons .nilsl (.d .nil))) (.cons .nilsl (.cons .nilsl (.d (.cons cI (.cons cI (.cons cI (.cons .bool .nil))))))))), (128, (.d (.cons cMarker (.cons cHeap .nil))))], [], 1920⟩, rc := ⟨[], [2], [], [], [0, 16, 32, 48, 128], [], 1920⟩, r := ⟨[(2, (.d .bool))], [(0, (.d cHeap)), (16, (.d cMarker)), (32, (.cons .nilsl (.cons .nilsl (.d (.cons .bool .nil))))), (48, (.cons (.cons (.d cI) (.cons .nilsl (.d .nil))) (.cons .nilsl (.cons .nilsl (.d (.cons cI (.cons cI (.cons cI (.cons .bool .nil))))))))), (128, (.d (.cons cMarker (.cons cHeap .nil))))], [], 1920⟩, F := mark_Step_l2 }
noncomputable def mark_Step_S : List (Nat × Sum) := [(43, slices_Clone_api_Value_sm), (45, shade_Shade_sm), (46, slices_Clone_api_Grey_sm), (53, object_Get_sm), (64, object_Field_sm), (66, grey_Pop_sm), (69, mark_state_barrier_1_sm), (70, object_List_sm), (71, object_Black_sm)]
noncomputable def mark_Step_fl : List (Nat × Func) := [(34, Go.Proofs.Tryd.f34), (35, Go.Proofs.Tryd.f35), (36, Go.Proofs.Tryd.f36), (37, Go.Proofs.Tryd.f37), (38, Go.Proofs.Tryd.f38), (39, Go.Proofs.Tryd.f39), (65, Go.Proofs.Tryd.f65), (67, Go.Proofs.Tryd.f67), (68, Go.Proofs.Tryd.f68)]
noncomputable def mark_Step_es : List AE := [⟨6, 68, 1152, 0, mark_Step_L0⟩, ⟨7, 38, 1712, 0, mark_Step_L1⟩, ⟨7, 38, 1696, 0, mark_Step_L2⟩]
theorem mark_Step_den0 : (fun x => denStep TEv (look1 mark_Step_S) (look1 mark_Step_fl) (annOf mark_Step_es) 6 68 Go.Proofs.Tryd.f68.ntmps 1152 (cat (bodyOf Go.Proofs.Tryd.f68) [true, false, true, false, false]) mark_Step_L0 x) = mark_Step_s0 := by kernel_rfl
theorem mark_Step_den1 : (fun x => denStep TEv (look1 mark_Step_S) (look1 mark_Step_fl) (annOf mark_Step_es) 7 38 Go.Proofs.Tryd.f38.ntmps 1712 (cat (bodyOf Go.Proofs.Tryd.f38) [true, true, false, true, false, false]) mark_Step_L1 x) = mark_Step_s1 := by kernel_rfl
theorem mark_Step_den2 : (fun x => denStep TEv (look1 mark_Step_S) (look1 mark_Step_fl) (annOf mark_Step_es) 7 38 Go.Proofs.Tryd.f38.ntmps 1696 (cat (bodyOf Go.Proofs.Tryd.f38) [true, true, false, true, false, false]) mark_Step_L2 x) = mark_Step_s2 := by kernel_rfl
theorem mark_Step_den : (fun x => denFun TEv (look1 mark_Step_S) (look1 mark_Step_fl) (annOf mark_Step_es) 8 14 Go.Proofs.Tryd.f14 mark_Step_sm.a mark_Step_sm.r x) = mark_Step_sm.F := by kernel_rfl
theorem mark_Step_ok0 : AEok Go.Proofs.Tryd.prog TEv (look1 mark_Step_S) (look1 mark_Step_fl) (annOf mark_Step_es) ⟨6, 68, 1152, 0, mark_Step_L0⟩ := aeok_of 9223372036854775808 Go.Proofs.Tryd.func68 (by kernel_rfl) mark_Step_den0 (by kernel_rfl)
theorem mark_Step_ok1 : AEok Go.Proofs.Tryd.prog TEv (look1 mark_Step_S) (look1 mark_Step_fl) (annOf mark_Step_es) ⟨7, 38, 1712, 0, mark_Step_L1⟩ := aeok_of 9223372036854775808 Go.Proofs.Tryd.func38 (by kernel_rfl) mark_Step_den1 (by kernel_rfl)
theorem mark_Step_ok2 : AEok Go.Proofs.Tryd.prog TEv (look1 mark_Step_S) (look1 mark_Step_fl) (annOf mark_Step_es) ⟨7, 38, 1696, 0, mark_Step_L2⟩ := aeok_of 9223372036854775808 Go.Proofs.Tryd.func38 (by kernel_rfl) mark_Step_den2 (by kernel_rfl)
theorem mark_Step_sem : SemOf Go.Proofs.Tryd.prog 14 mark_Step_sm :=
  semMk teOk (sl := mark_Step_S) (all_cons slices_Clone_api_Value_sem (all_cons shade_Shade_sem (all_cons slices_Clone_api_Grey_sem (all_cons object_Get_sem (all_cons object_Field_sem (all_cons grey_Pop_sem (all_cons mark_state_barrier_1_sem (all_cons object_List_sem (all_cons object_Black_sem all_nil))))))))) (fl := mark_Step_fl) (all_cons ⟨⟨Go.Proofs.Tryd.func34, by kernel_rfl⟩, rng_none (by kernel_rfl) (by kernel_rfl)⟩ (all_cons ⟨⟨Go.Proofs.Tryd.func35, by kernel_rfl⟩, rng_none (by kernel_rfl) (by kernel_rfl)⟩ (all_cons ⟨⟨Go.Proofs.Tryd.func36, by kernel_rfl⟩, rng_none (by kernel_rfl) (by kernel_rfl)⟩ (all_cons ⟨⟨Go.Proofs.Tryd.func37, by kernel_rfl⟩, rng_none (by kernel_rfl) (by kernel_rfl)⟩ (all_cons ⟨⟨Go.Proofs.Tryd.func38, by kernel_rfl⟩, rng_none (by kernel_rfl) (by kernel_rfl)⟩ (all_cons ⟨⟨Go.Proofs.Tryd.func39, by kernel_rfl⟩, rng_none (by kernel_rfl) (by kernel_rfl)⟩ (all_cons ⟨⟨Go.Proofs.Tryd.func65, by kernel_rfl⟩, rng_none (by kernel_rfl) (by kernel_rfl)⟩ (all_cons ⟨⟨Go.Proofs.Tryd.func67, by kernel_rfl⟩, rng_none (by kernel_rfl) (by kernel_rfl)⟩ (all_cons ⟨⟨Go.Proofs.Tryd.func68, by kernel_rfl⟩, rng_none (by kernel_rfl) (by kernel_rfl)⟩ (all_nil)))))))))) (es := mark_Step_es) Go.Proofs.Tryd.func14 (by kernel_rfl) rfl (rng_none (by kernel_rfl) (by kernel_rfl)) (all_cons mark_Step_ok0 (all_cons mark_Step_ok1 (all_cons mark_Step_ok2 (all_nil)))) rfl mark_Step_den
end Go.Proofs.YtdiogegolnoeoaaDoor.Den
