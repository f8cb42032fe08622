/- What functions come to. Printed by a program of this session. -/
import Derived.Test.YtdfhopakojmjkaaDoorDenF4
namespace Go.Proofs.YtdfhopakojmjkaaDoor.Den
open Go
set_option maxRecDepth 100000
set_option linter.unusedVariables false
/-! ### flotsam/op.field -/
def op_field_r (a0 : Heap) (a1 : List Val) (a2 : Int × Int × Val) : Option (Int × Unit) :=
  (roots_Object (a1, a2.2.1, ())).bind fun y1 =>
  bif y1.2.1 != 0 then
    some (y1.2.1, ())
  else
  (object_Field (a0, y1.1, a2.2.2.1, ())).bind fun y2 =>
  some (y2.2.1, ())
def op_field (x : Heap × (List Val) × (Int × Int × Val) × Unit) : Option (Int × Unit) := op_field_r x.1 x.2.1 x.2.2.1
noncomputable def op_field_sm : Sum := ⟨(.cons cHeap (.cons (.sl cVal) (.cons (.cons cI (.cons cI cVal)) .nil))), (.cons (.d cI) .nil), op_field⟩
noncomputable def op_field_S : List (Nat × Sum) := [(80, object_Field_sm), (167, roots_Object_sm)]
noncomputable def op_field_fl : List (Nat × Func) := []
noncomputable def op_field_es : List AE := []
theorem op_field_den : (fun x => denFun TEv (look1 op_field_S) (look1 op_field_fl) (annOf op_field_es) 8 141 Go.Proofs.Tryd.f141 op_field_sm.a op_field_sm.r x) = op_field_sm.F := by kernel_rfl
theorem op_field_sem : SemOf Go.Proofs.Tryd.prog 141 op_field_sm :=
  semMk teOk (sl := op_field_S) (all_cons object_Field_sem (all_cons roots_Object_sem all_nil)) (fl := op_field_fl) (all_nil) (es := op_field_es) Go.Proofs.Tryd.func141 (by kernel_rfl) rfl (rng_none (by kernel_rfl) (by kernel_rfl)) (all_nil) rfl op_field_den

/-! ### flotsam/roots.Pop -/
def roots_Pop_r (a0 : List Val) : Option ((List Val) × Val × Int × Unit) :=
  bif decide ((wi64 ((a0.length : Int) - 1)) < 0) then
    some (a0, (0, 0, ()), 3, ())
  else
  bif decide (0 ≤ (wi64 ((a0.length : Int) - 1))) then
    bif decide ((wi64 ((a0.length : Int) - 1)) ≤ (a0.length : Int)) then
      (slices_Clone_api_Value ((a0.drop 0).take ((wi64 ((a0.length : Int) - 1)).toNat - 0), ())).bind fun y1 =>
      bif decide (0 ≤ (wi64 ((a0.length : Int) - 1))) then
        bif decide ((wi64 ((a0.length : Int) - 1)) < (a0.length : Int)) then
          some (y1.1, a0.getD (wi64 ((a0.length : Int) - 1)).toNat (0, 0, ()), 0, ())
        else none
      else none
    else none
  else none
def roots_Pop (x : (List Val) × Unit) : Option ((List Val) × Val × Int × Unit) := roots_Pop_r x.1
noncomputable def roots_Pop_sm : Sum := ⟨(.cons (.sl cVal) .nil), (.cons (.d (.sl cVal)) (.cons (.d cVal) (.cons (.d cI) .nil))), roots_Pop⟩
noncomputable def roots_Pop_S : List (Nat × Sum) := [(163, slices_Clone_api_Value_sm)]
noncomputable def roots_Pop_fl : List (Nat × Func) := []
noncomputable def roots_Pop_es : List AE := []
theorem roots_Pop_den : (fun x => denFun TEv (look1 roots_Pop_S) (look1 roots_Pop_fl) (annOf roots_Pop_es) 8 143 Go.Proofs.Tryd.f143 roots_Pop_sm.a roots_Pop_sm.r x) = roots_Pop_sm.F := by kernel_rfl
theorem roots_Pop_sem : SemOf Go.Proofs.Tryd.prog 143 roots_Pop_sm :=
  semMk teOk (sl := roots_Pop_S) (all_cons slices_Clone_api_Value_sem all_nil) (fl := roots_Pop_fl) (all_nil) (es := roots_Pop_es) Go.Proofs.Tryd.func143 (by kernel_rfl) rfl (rng_none (by kernel_rfl) (by kernel_rfl)) (all_nil) rfl roots_Pop_den

/-! ### flotsam/op.own -/
def op_own_r (a0 : Heap) (a1 : List Val) (a2 : Int × Int × Val) : Option (Int × Unit) :=
  bif a2.1 == 0 then
    (op_within (a2.2.1, 0, 15, ())).bind fun y1 =>
    some (y1.1, ())
  else
  bif a2.1 == 4 then
    (op_within (a2.2.1, 0, 1099511627776, ())).bind fun y2 =>
    some (y2.1, ())
  else
  bif a2.1 == 1 then
    (op_field (a0, a1, a2, ())).bind fun y3 =>
    bif y3.1 == 0 then
      bif a2.1 == 2 then
        (roots_Slot (a1, a2.2.2.2.1, ())).bind fun y4 =>
        some (y4.2.1, ())
      else
      some (y3.1, ())
    else
    some (y3.1, ())
  else
  bif a2.1 == 2 then
    (op_field (a0, a1, a2, ())).bind fun y5 =>
    bif y5.1 == 0 then
      bif a2.1 == 2 then
        (roots_Slot (a1, a2.2.2.2.1, ())).bind fun y6 =>
        some (y6.2.1, ())
      else
      some (y5.1, ())
    else
    some (y5.1, ())
  else
  bif a2.1 == 3 then
    (roots_Slot (a1, a2.2.1, ())).bind fun y7 =>
    some (y7.2.1, ())
  else
  bif a2.1 == 5 then
    (roots_Pop (a1, ())).bind fun y8 =>
    some (y8.2.2.1, ())
  else
  bif a2.1 == 6 then
    some (0, ())
  else
  some (1, ())
def op_own (x : Heap × (List Val) × (Int × Int × Val) × Unit) : Option (Int × Unit) := op_own_r x.1 x.2.1 x.2.2.1
noncomputable def op_own_sm : Sum := ⟨(.cons cHeap (.cons (.sl cVal) (.cons (.cons cI (.cons cI cVal)) .nil))), (.cons (.d cI) .nil), op_own⟩
noncomputable def op_own_S : List (Nat × Sum) := [(140, op_within_sm), (141, op_field_sm), (142, roots_Slot_sm), (143, roots_Pop_sm)]
noncomputable def op_own_fl : List (Nat × Func) := []
noncomputable def op_own_es : List AE := []
theorem op_own_den : (fun x => denFun TEv (look1 op_own_S) (look1 op_own_fl) (annOf op_own_es) 8 79 Go.Proofs.Tryd.f79 op_own_sm.a op_own_sm.r x) = op_own_sm.F := by kernel_rfl
theorem op_own_sem : SemOf Go.Proofs.Tryd.prog 79 op_own_sm :=
  semMk teOk (sl := op_own_S) (all_cons op_within_sem (all_cons op_field_sem (all_cons roots_Slot_sem (all_cons roots_Pop_sem all_nil)))) (fl := op_own_fl) (all_nil) (es := op_own_es) Go.Proofs.Tryd.func79 (by kernel_rfl) rfl (rng_none (by kernel_rfl) (by kernel_rfl)) (all_nil) rfl op_own_den

/-! ### flotsam/op.Check -/
def op_Check_r (a0 : Heap) (a1 : List Val) (a2 : Int) (a3 : Int × Int × Val) : Option (Int × Unit) :=
  (op_own (a0, a1, a3, ())).bind fun y1 =>
  bif y1.1 == 0 then
    (op_Pushes (a3.1, ())).bind fun y2 =>
    bif y2.1 then
      bif decide ((a1.length : Int) ≥ a2) then
        some (5, ())
      else
      some (y1.1, ())
    else
    some (y1.1, ())
  else
  some (y1.1, ())
def op_Check (x : Heap × (List Val) × Int × (Int × Int × Val) × Unit) : Option (Int × Unit) := op_Check_r x.1 x.2.1 x.2.2.1 x.2.2.2.1
noncomputable def op_Check_sm : Sum := ⟨(.cons cHeap (.cons (.sl cVal) (.cons cI (.cons (.cons cI (.cons cI cVal)) .nil)))), (.cons (.d cI) .nil), op_Check⟩
noncomputable def op_Check_S : List (Nat × Sum) := [(78, op_Pushes_sm), (79, op_own_sm)]
noncomputable def op_Check_fl : List (Nat × Func) := []
noncomputable def op_Check_es : List AE := []
theorem op_Check_den : (fun x => denFun TEv (look1 op_Check_S) (look1 op_Check_fl) (annOf op_Check_es) 8 34 Go.Proofs.Tryd.f34 op_Check_sm.a op_Check_sm.r x) = op_Check_sm.F := by kernel_rfl
theorem op_Check_sem : SemOf Go.Proofs.Tryd.prog 34 op_Check_sm :=
  semMk teOk (sl := op_Check_S) (all_cons op_Pushes_sem (all_cons op_own_sem all_nil)) (fl := op_Check_fl) (all_nil) (es := op_Check_es) Go.Proofs.Tryd.func34 (by kernel_rfl) rfl (rng_none (by kernel_rfl) (by kernel_rfl)) (all_nil) rfl op_Check_den

/-! ### flotsam/flotsamlaw19.awake -/
def flotsamlaw19_awake_r  : Option (Bool × Unit) :=
  (flotsamref07_Made (1, [(0, 0, 0, ()), (1, 0, 1, ())], ())).bind fun y1 =>
  (op_Check (y1.1, [], 4, (1, 0, 0, 0, ()), ())).bind fun y2 =>
  bif y2.1 == 3 then
    (op_Check (y1.1, [(0, 0, ()), (1, 3, ()), (2, 0, ()), (2, 8, ())], 9, (1, 1, 0, 0, ()), ())).bind fun y3 =>
    bif y3.1 == 7 then
      (op_Check (y1.1, [(0, 0, ()), (1, 3, ()), (2, 0, ()), (2, 8, ())], 9, (1, 0, 0, 0, ()), ())).bind fun y4 =>
      bif y4.1 == 2 then
        (op_Check (y1.1, [(0, 0, ()), (1, 3, ()), (2, 0, ()), (2, 8, ())], 9, (1, 2, 0, 0, ()), ())).bind fun y5 =>
        bif y5.1 == 0 then
          (op_Check (y1.1, [(0, 0, ()), (1, 3, ()), (2, 0, ()), (2, 8, ())], 4, (1, 2, 0, 0, ()), ())).bind fun y6 =>
          bif y6.1 == 5 then
            (op_Check (y1.1, [(0, 0, ()), (1, 3, ()), (2, 0, ()), (2, 8, ())], 9, (1, 2, 1, 0, ()), ())).bind fun y7 =>
            bif y7.1 == 4 then
              (op_Check (y1.1, [(0, 0, ()), (1, 3, ()), (2, 0, ()), (2, 8, ())], 9, (1, 3, 0, 0, ()), ())).bind fun y8 =>
              bif y8.1 == 1 then
                (op_Check (y1.1, [(0, 0, ()), (1, 3, ()), (2, 0, ()), (2, 8, ())], 4, (2, 2, 0, 4, ()), ())).bind fun y9 =>
                bif y9.1 == 3 then
                  (op_Check (y1.1, [(0, 0, ()), (1, 3, ()), (2, 0, ()), (2, 8, ())], 4, (7, 0, 0, 0, ()), ())).bind fun y10 =>
                  bif y10.1 == 1 then
                    (op_Pushes (3, ())).bind fun y11 =>
                    bif y11.1 then
                      (op_Pushes (5, ())).bind fun y12 =>
                      some (!y12.1, ())
                    else
                    some (false, ())
                  else
                  some (false, ())
                else
                some (false, ())
              else
              some (false, ())
            else
            some (false, ())
          else
          some (false, ())
        else
        some (false, ())
      else
      some (false, ())
    else
    some (false, ())
  else
  some (false, ())
def flotsamlaw19_awake (x : Unit) : Option (Bool × Unit) := flotsamlaw19_awake_r 
noncomputable def flotsamlaw19_awake_sm : Sum := ⟨.nil, (.cons (.d .bool) .nil), flotsamlaw19_awake⟩
noncomputable def flotsamlaw19_awake_S : List (Nat × Sum) := [(34, op_Check_sm), (45, flotsamref07_Made_sm), (78, op_Pushes_sm)]
noncomputable def flotsamlaw19_awake_fl : List (Nat × Func) := []
noncomputable def flotsamlaw19_awake_es : List AE := []
theorem flotsamlaw19_awake_den : (fun x => denFun TEv (look1 flotsamlaw19_awake_S) (look1 flotsamlaw19_awake_fl) (annOf flotsamlaw19_awake_es) 8 33 Go.Proofs.Tryd.f33 flotsamlaw19_awake_sm.a flotsamlaw19_awake_sm.r x) = flotsamlaw19_awake_sm.F := by kernel_rfl
theorem flotsamlaw19_awake_sem : SemOf Go.Proofs.Tryd.prog 33 flotsamlaw19_awake_sm :=
  semMk teOk (sl := flotsamlaw19_awake_S) (all_cons op_Check_sem (all_cons flotsamref07_Made_sem (all_cons op_Pushes_sem all_nil))) (fl := flotsamlaw19_awake_fl) (all_nil) (es := flotsamlaw19_awake_es) Go.Proofs.Tryd.func33 (by kernel_rfl) rfl (rng_none (by kernel_rfl) (by kernel_rfl)) (all_nil) rfl flotsamlaw19_awake_den

/-! ### flotsam/flotsamlaw19.OpMore -/
def flotsamlaw19_OpMore_r (a0 : Heap) (a1 : List Val) (a2 : Int) (a3 : Int × Int × Val) (a4 : Val) : Option (Bool × Unit) :=
  (flotsamlaw19_awake ()).bind fun y1 =>
  bif !y1.1 then
    (flotsamlaw19_awake ()).bind fun y2 =>
    some (y2.1, ())
  else
  (flotsamref07_Form (a0, ())).bind fun y3 =>
  bif !y3.1 then
    (flotsamlaw19_awake ()).bind fun y4 =>
    some (y4.1, ())
  else
  bif decide ((a1.length : Int) > 50) then
    (flotsamlaw19_awake ()).bind fun y5 =>
    some (y5.1, ())
  else
  (op_Check (a0, a1, wi64 a2, a3, ())).bind fun y6 =>
  bif decide ((0 + a1.length) * 16 ≤ 140737488355328) then
    bif decide ((a1.length + 1) * 16 ≤ 140737488355328) then
      bif y6.1 == 0 then
        (op_Check (a0, a1 ++ [a4], wi64 ((wi64 a2) + 1), a3, ())).bind fun y7 =>
        bif y7.1 != 0 then
          some (false, ())
        else
        bif a3.1 != 1 then
          some (true, ())
        else
        bif (a1.length : Int) == 0 then
          some (true, ())
        else
        (op_Check (a0, a1, wi64 a2, (2, a3.2.1, a3.2.2.1, 0, a3.2.2.2.2), ())).bind fun y8 =>
        bif y6.1 == y8.1 then
          some (true, ())
        else
        bif y6.1 == 5 then
          some (y8.1 == 0, ())
        else
        some (false, ())
      else
      bif a3.1 != 1 then
        some (true, ())
      else
      bif (a1.length : Int) == 0 then
        some (true, ())
      else
      (op_Check (a0, a1, wi64 a2, (2, a3.2.1, a3.2.2.1, 0, a3.2.2.2.2), ())).bind fun y9 =>
      bif y6.1 == y9.1 then
        some (true, ())
      else
      bif y6.1 == 5 then
        some (y9.1 == 0, ())
      else
      some (false, ())
    else none
  else none
def flotsamlaw19_OpMore (x : Heap × (List Val) × Int × (Int × Int × Val) × Val × Unit) : Option (Bool × Unit) := flotsamlaw19_OpMore_r x.1 x.2.1 x.2.2.1 x.2.2.2.1 x.2.2.2.2.1
noncomputable def flotsamlaw19_OpMore_sm : Sum := ⟨(.cons cHeap (.cons (.sl cVal) (.cons (.int .u8) (.cons (.cons cI (.cons cI cVal)) (.cons cVal .nil))))), (.cons (.d .bool) .nil), flotsamlaw19_OpMore⟩
noncomputable def flotsamlaw19_OpMore_S : List (Nat × Sum) := [(21, flotsamref07_Form_sm), (33, flotsamlaw19_awake_sm), (34, op_Check_sm)]
noncomputable def flotsamlaw19_OpMore_fl : List (Nat × Func) := []
noncomputable def flotsamlaw19_OpMore_es : List AE := []
theorem flotsamlaw19_OpMore_den : (fun x => denFun TEv (look1 flotsamlaw19_OpMore_S) (look1 flotsamlaw19_OpMore_fl) (annOf flotsamlaw19_OpMore_es) 8 6 Go.Proofs.Tryd.f6 flotsamlaw19_OpMore_sm.a flotsamlaw19_OpMore_sm.r x) = flotsamlaw19_OpMore_sm.F := by kernel_rfl
theorem flotsamlaw19_OpMore_sem : SemOf Go.Proofs.Tryd.prog 6 flotsamlaw19_OpMore_sm :=
  semMk teOk (sl := flotsamlaw19_OpMore_S) (all_cons flotsamref07_Form_sem (all_cons flotsamlaw19_awake_sem (all_cons op_Check_sem all_nil))) (fl := flotsamlaw19_OpMore_fl) (all_nil) (es := flotsamlaw19_OpMore_es) Go.Proofs.Tryd.func6 (by kernel_rfl) rfl (rng_none (by kernel_rfl) (by kernel_rfl)) (all_nil) rfl flotsamlaw19_OpMore_den

/-! ### flotsam/flotsamlaw19.OpKeeps -/
def flotsamlaw19_OpKeeps_s0r (v1 : List Val) (v11 : Int) (c0 : Heap) (r272 : List Val) (r352 : List Int) : Option (SRes (.cons (.sl cVal) (.cons cI (.cons cHeap (.cons (.sl cVal) (.cons (.sl (.int .u64)) .nil))))) (.cons (.sl cVal) (.cons cHeap (.cons (.sl cVal) (.cons (.sl (.int .u64)) .nil)))) (.cons .bool .nil)) :=
  bif decide (v11 < (r352.length : Int)) then
    bif decide (0 ≤ v11) then
      bif decide (v11 < (r352.length : Int)) then
        bif decide (0 ≤ v11) then
          bif decide (v11 < (c0.1.length : Int)) then
            bif (r352.getD v11.toNat 0) != (c0.1.getD v11.toNat 0) then
              some (.fin (.ret (false, ())))
            else
            some (.next (v1, wi64 (v11 + 1), c0, r272, r352, ()))
          else none
        else none
      else none
    else none
  else
  some (.fin (.out (v1, c0, r272, r352, ())))
def flotsamlaw19_OpKeeps_s0 (x : (List Val) × Int × Heap × (List Val) × (List Int) × Unit) : Option (SRes (.cons (.sl cVal) (.cons cI (.cons cHeap (.cons (.sl cVal) (.cons (.sl (.int .u64)) .nil))))) (.cons (.sl cVal) (.cons cHeap (.cons (.sl cVal) (.cons (.sl (.int .u64)) .nil)))) (.cons .bool .nil)) := flotsamlaw19_OpKeeps_s0r x.1 x.2.1 x.2.2.1 x.2.2.2.1 x.2.2.2.2.1
def flotsamlaw19_OpKeeps_l0 (x : (List Val) × Int × Heap × (List Val) × (List Int) × Unit) : Option (LRes (.cons (.sl cVal) (.cons cHeap (.cons (.sl cVal) (.cons (.sl (.int .u64)) .nil)))) (.cons .bool .nil)) := iterL (h := (.cons (.sl cVal) (.cons cI (.cons cHeap (.cons (.sl cVal) (.cons (.sl (.int .u64)) .nil)))))) (o := (.cons (.sl cVal) (.cons cHeap (.cons (.sl cVal) (.cons (.sl (.int .u64)) .nil))))) (r := (.cons .bool .nil)) flotsamlaw19_OpKeeps_s0 9223372036854775808 x
def flotsamlaw19_OpKeeps_s1r (v1 : List Val) (v12 : Int) (c0 : Heap) (r272 : List Val) (r352 : List Int) : Option (SRes (.cons (.sl cVal) (.cons cI (.cons cHeap (.cons (.sl cVal) (.cons (.sl (.int .u64)) .nil))))) (.cons cHeap (.cons (.sl (.int .u64)) .nil)) (.cons .bool .nil)) :=
  bif decide (v12 < (r272.length : Int)) then
    bif decide (0 ≤ v12) then
      bif decide (v12 < (r272.length : Int)) then
        bif decide (0 ≤ v12) then
          bif decide (v12 < (v1.length : Int)) then
            bif !(((r272.getD v12.toNat (0, 0, ())).1 == (v1.getD v12.toNat (0, 0, ())).1) && (((r272.getD v12.toNat (0, 0, ())).2.1 == (v1.getD v12.toNat (0, 0, ())).2.1) && true)) then
              some (.fin (.ret (false, ())))
            else
            some (.next (v1, wi64 (v12 + 1), c0, r272, r352, ()))
          else none
        else none
      else none
    else none
  else
  some (.fin (.out (c0, r352, ())))
def flotsamlaw19_OpKeeps_s1 (x : (List Val) × Int × Heap × (List Val) × (List Int) × Unit) : Option (SRes (.cons (.sl cVal) (.cons cI (.cons cHeap (.cons (.sl cVal) (.cons (.sl (.int .u64)) .nil))))) (.cons cHeap (.cons (.sl (.int .u64)) .nil)) (.cons .bool .nil)) := flotsamlaw19_OpKeeps_s1r x.1 x.2.1 x.2.2.1 x.2.2.2.1 x.2.2.2.2.1
def flotsamlaw19_OpKeeps_l1 (x : (List Val) × Int × Heap × (List Val) × (List Int) × Unit) : Option (LRes (.cons cHeap (.cons (.sl (.int .u64)) .nil)) (.cons .bool .nil)) := iterL (h := (.cons (.sl cVal) (.cons cI (.cons cHeap (.cons (.sl cVal) (.cons (.sl (.int .u64)) .nil)))))) (o := (.cons cHeap (.cons (.sl (.int .u64)) .nil))) (r := (.cons .bool .nil)) flotsamlaw19_OpKeeps_s1 9223372036854775808 x
def flotsamlaw19_OpKeeps_r (a0 : Heap) (a1 : List Val) (a2 : Int) (a3 : Int × Int × Val) : Option (Bool × Unit) :=
  (flotsamlaw19_awake ()).bind fun y1 =>
  bif !y1.1 then
    (flotsamlaw19_awake ()).bind fun y2 =>
    some (y2.1, ())
  else
  (flotsamref07_Form (a0, ())).bind fun y3 =>
  bif !y3.1 then
    (flotsamlaw19_awake ()).bind fun y4 =>
    some (y4.1, ())
  else
  bif decide ((a1.length : Int) > 50) then
    (flotsamlaw19_awake ()).bind fun y5 =>
    some (y5.1, ())
  else
  bif decide ((0 + a1.length) * 16 ≤ 140737488355328) then
    bif decide ((0 + a0.1.length) * 8 ≤ 140737488355328) then
      (op_Check (a0, a1, wi64 a2, a3, ())).bind fun y6 =>
      (flotsamlaw19_OpKeeps_l0 (a1, 0, a0, a1, a0.1, ())).bind fun s7 => match s7 with
      | .out s7 =>
        (flotsamlaw19_OpKeeps_l1 (s7.1, 0, s7.2.1, s7.2.2.1, s7.2.2.2.1, ())).bind fun s8 => match s8 with
        | .out s8 =>
          some ((s8.2.1.length : Int) == (s8.1.1.length : Int), ())
        | .ret s8 =>
          some (s8.1, ())
      | .ret s7 =>
        some (s7.1, ())
    else none
  else none
def flotsamlaw19_OpKeeps (x : Heap × (List Val) × Int × (Int × Int × Val) × Unit) : Option (Bool × Unit) := flotsamlaw19_OpKeeps_r x.1 x.2.1 x.2.2.1 x.2.2.2.1
noncomputable def flotsamlaw19_OpKeeps_sm : Sum := ⟨(.cons cHeap (.cons (.sl cVal) (.cons (.int .u8) (.cons (.cons cI (.cons cI cVal)) .nil)))), (.cons (.d .bool) .nil), flotsamlaw19_OpKeeps⟩
noncomputable def flotsamlaw19_OpKeeps_L0 : LoopSum := { hc := ⟨[], [1, 4, 9, 10, 11], [], [], [0], [272, 352], 496⟩, h := ⟨[(1, (.d (.sl cVal))), (4, (.pvar 0 [])), (9, (.row 272)), (10, (.row 352)), (11, (.d cI))], [(0, (.d cHeap))], [(272, cVal, true), (352, (.int .u64), true)], 496⟩, xid := 0, oc := ⟨[], [1, 4, 9, 10], [], [], [0], [272, 352], 496⟩, o := ⟨[(1, (.d (.sl cVal))), (4, (.pvar 0 [])), (9, (.row 272)), (10, (.row 352))], [(0, (.d cHeap))], [(272, cVal, true), (352, (.int .u64), true)], 496⟩, rc := ⟨[], [8], [], [], [], [], 496⟩, r := ⟨[(8, (.d .bool))], [], [], 496⟩, F := flotsamlaw19_OpKeeps_l0 }
noncomputable def flotsamlaw19_OpKeeps_L1 : LoopSum := { hc := ⟨[], [1, 4, 9, 10, 12], [], [], [0], [272, 352], 512⟩, h := ⟨[(1, (.d (.sl cVal))), (4, (.pvar 0 [])), (9, (.row 272)), (10, (.row 352)), (12, (.d cI))], [(0, (.d cHeap))], [(272, cVal, true), (352, (.int .u64), true)], 512⟩, xid := 2, oc := ⟨[], [4, 10], [], [], [0], [352], 512⟩, o := ⟨[(4, (.pvar 0 [])), (10, (.row 352))], [(0, (.d cHeap))], [(352, (.int .u64), true)], 512⟩, rc := ⟨[], [8], [], [], [], [], 512⟩, r := ⟨[(8, (.d .bool))], [], [], 512⟩, F := flotsamlaw19_OpKeeps_l1 }
noncomputable def flotsamlaw19_OpKeeps_S : List (Nat × Sum) := [(21, flotsamref07_Form_sm), (33, flotsamlaw19_awake_sm), (34, op_Check_sm)]
noncomputable def flotsamlaw19_OpKeeps_fl : List (Nat × Func) := []
noncomputable def flotsamlaw19_OpKeeps_es : List AE := [⟨8, 7, 0, 0, flotsamlaw19_OpKeeps_L0⟩, ⟨8, 7, 0, 2, flotsamlaw19_OpKeeps_L1⟩]
theorem flotsamlaw19_OpKeeps_den0 : (fun x => denStep TEv (look1 flotsamlaw19_OpKeeps_S) (look1 flotsamlaw19_OpKeeps_fl) (annOf flotsamlaw19_OpKeeps_es) 8 7 Go.Proofs.Tryd.f7.ntmps 0 (cat (bodyOf Go.Proofs.Tryd.f7) [true, true, true, true, true, false, true, false, false]) flotsamlaw19_OpKeeps_L0 x) = flotsamlaw19_OpKeeps_s0 := by kernel_rfl
theorem flotsamlaw19_OpKeeps_den1 : (fun x => denStep TEv (look1 flotsamlaw19_OpKeeps_S) (look1 flotsamlaw19_OpKeeps_fl) (annOf flotsamlaw19_OpKeeps_es) 8 7 Go.Proofs.Tryd.f7.ntmps 0 (cat (bodyOf Go.Proofs.Tryd.f7) [true, true, true, true, true, true, false, true, false, false]) flotsamlaw19_OpKeeps_L1 x) = flotsamlaw19_OpKeeps_s1 := by kernel_rfl
theorem flotsamlaw19_OpKeeps_den : (fun x => denFun TEv (look1 flotsamlaw19_OpKeeps_S) (look1 flotsamlaw19_OpKeeps_fl) (annOf flotsamlaw19_OpKeeps_es) 8 7 Go.Proofs.Tryd.f7 flotsamlaw19_OpKeeps_sm.a flotsamlaw19_OpKeeps_sm.r x) = flotsamlaw19_OpKeeps_sm.F := by kernel_rfl
theorem flotsamlaw19_OpKeeps_ok0 : AEok Go.Proofs.Tryd.prog TEv (look1 flotsamlaw19_OpKeeps_S) (look1 flotsamlaw19_OpKeeps_fl) (annOf flotsamlaw19_OpKeeps_es) ⟨8, 7, 0, 0, flotsamlaw19_OpKeeps_L0⟩ := aeok_of 9223372036854775808 Go.Proofs.Tryd.func7 (by kernel_rfl) flotsamlaw19_OpKeeps_den0 (by kernel_rfl)
theorem flotsamlaw19_OpKeeps_ok1 : AEok Go.Proofs.Tryd.prog TEv (look1 flotsamlaw19_OpKeeps_S) (look1 flotsamlaw19_OpKeeps_fl) (annOf flotsamlaw19_OpKeeps_es) ⟨8, 7, 0, 2, flotsamlaw19_OpKeeps_L1⟩ := aeok_of 9223372036854775808 Go.Proofs.Tryd.func7 (by kernel_rfl) flotsamlaw19_OpKeeps_den1 (by kernel_rfl)
theorem flotsamlaw19_OpKeeps_sem : SemOf Go.Proofs.Tryd.prog 7 flotsamlaw19_OpKeeps_sm :=
  semMk teOk (sl := flotsamlaw19_OpKeeps_S) (all_cons flotsamref07_Form_sem (all_cons flotsamlaw19_awake_sem (all_cons op_Check_sem all_nil))) (fl := flotsamlaw19_OpKeeps_fl) (all_nil) (es := flotsamlaw19_OpKeeps_es) Go.Proofs.Tryd.func7 (by kernel_rfl) rfl (rng_none (by kernel_rfl) (by kernel_rfl)) (all_cons flotsamlaw19_OpKeeps_ok0 (all_cons flotsamlaw19_OpKeeps_ok1 (all_nil))) rfl flotsamlaw19_OpKeeps_den
end Go.Proofs.YtdfhopakojmjkaaDoor.Den
