/- What functions come to. Printed by a program of this session. -/
import Derived.Test.YtebdioogklmeaaaDoorDenF5
namespace Go.Proofs.YtebdioogklmeaaaDoor.Den
open Go
set_option maxRecDepth 100000
set_option linter.unusedVariables false
/-! ### flotsam/flotsamlaw11.TakeKeeps -/
def flotsamlaw11_TakeKeeps_o_s0r (v1 : List (List Int)) (v2 : Int) (v3 : Int) (v14 : Bool) (v15 : Int) (c0 : Heap) (c416 : Bool × Unit) (c608 : Bool × Unit) (r208 : List (List Int)) (r288 : List Int) (r352 : List Span) (r512 : List Int) (r513 : List Span) (r514 : List (List Int)) : Option (SRes (.cons (.sl (.arr 4 cI)) (.cons cI (.cons cI (.cons .bool (.cons cI (.cons cHeap (.cons (.cons .bool .nil) (.cons (.cons .bool .nil) (.cons (.sl (.arr 4 cI)) (.cons (.sl (.int .u64)) (.cons (.sl cSpan) (.cons (.sl (.int .u64)) (.cons (.sl cSpan) (.cons (.sl (.arr 4 cI)) .nil)))))))))))))) (.cons (.sl (.arr 4 cI)) (.cons cI (.cons cI (.cons .bool (.cons cHeap (.cons (.cons .bool .nil) (.cons (.cons .bool .nil) (.cons (.sl (.int .u64)) (.cons (.sl cSpan) (.cons (.sl (.int .u64)) (.cons (.sl cSpan) (.cons (.sl (.arr 4 cI)) .nil)))))))))))) .nil) :=
  bif decide (v15 < (r208.length : Int)) then
    bif decide (0 ≤ v15) then
      bif decide (v15 < (r208.length : Int)) then
        some (.next (v1, v2, v3, v14, wi64 (v15 + 1), c0, c416, c608, r208.set v15.toNat ([9, 9, 9, 9] : List Int), r288, r352, r512, r513, r514, ()))
      else none
    else none
  else
  some (.fin (.out (v1, v2, v3, v14, c0, c416, c608, r288, r352, r512, r513, r514, ())))
def flotsamlaw11_TakeKeeps_o_s0 (x : (List (List Int)) × Int × Int × Bool × Int × Heap × (Bool × Unit) × (Bool × Unit) × (List (List Int)) × (List Int) × (List Span) × (List Int) × (List Span) × (List (List Int)) × Unit) : Option (SRes (.cons (.sl (.arr 4 cI)) (.cons cI (.cons cI (.cons .bool (.cons cI (.cons cHeap (.cons (.cons .bool .nil) (.cons (.cons .bool .nil) (.cons (.sl (.arr 4 cI)) (.cons (.sl (.int .u64)) (.cons (.sl cSpan) (.cons (.sl (.int .u64)) (.cons (.sl cSpan) (.cons (.sl (.arr 4 cI)) .nil)))))))))))))) (.cons (.sl (.arr 4 cI)) (.cons cI (.cons cI (.cons .bool (.cons cHeap (.cons (.cons .bool .nil) (.cons (.cons .bool .nil) (.cons (.sl (.int .u64)) (.cons (.sl cSpan) (.cons (.sl (.int .u64)) (.cons (.sl cSpan) (.cons (.sl (.arr 4 cI)) .nil)))))))))))) .nil) := flotsamlaw11_TakeKeeps_o_s0r x.1 x.2.1 x.2.2.1 x.2.2.2.1 x.2.2.2.2.1 x.2.2.2.2.2.1 x.2.2.2.2.2.2.1 x.2.2.2.2.2.2.2.1 x.2.2.2.2.2.2.2.2.1 x.2.2.2.2.2.2.2.2.2.1 x.2.2.2.2.2.2.2.2.2.2.1 x.2.2.2.2.2.2.2.2.2.2.2.1 x.2.2.2.2.2.2.2.2.2.2.2.2.1 x.2.2.2.2.2.2.2.2.2.2.2.2.2.1
def flotsamlaw11_TakeKeeps_o_l0 (x : (List (List Int)) × Int × Int × Bool × Int × Heap × (Bool × Unit) × (Bool × Unit) × (List (List Int)) × (List Int) × (List Span) × (List Int) × (List Span) × (List (List Int)) × Unit) : Option (LRes (.cons (.sl (.arr 4 cI)) (.cons cI (.cons cI (.cons .bool (.cons cHeap (.cons (.cons .bool .nil) (.cons (.cons .bool .nil) (.cons (.sl (.int .u64)) (.cons (.sl cSpan) (.cons (.sl (.int .u64)) (.cons (.sl cSpan) (.cons (.sl (.arr 4 cI)) .nil)))))))))))) .nil) := iterL (h := (.cons (.sl (.arr 4 cI)) (.cons cI (.cons cI (.cons .bool (.cons cI (.cons cHeap (.cons (.cons .bool .nil) (.cons (.cons .bool .nil) (.cons (.sl (.arr 4 cI)) (.cons (.sl (.int .u64)) (.cons (.sl cSpan) (.cons (.sl (.int .u64)) (.cons (.sl cSpan) (.cons (.sl (.arr 4 cI)) .nil))))))))))))))) (o := (.cons (.sl (.arr 4 cI)) (.cons cI (.cons cI (.cons .bool (.cons cHeap (.cons (.cons .bool .nil) (.cons (.cons .bool .nil) (.cons (.sl (.int .u64)) (.cons (.sl cSpan) (.cons (.sl (.int .u64)) (.cons (.sl cSpan) (.cons (.sl (.arr 4 cI)) .nil))))))))))))) (r := .nil) flotsamlaw11_TakeKeeps_o_s0 9223372036854775808 x
def flotsamlaw11_TakeKeeps_o_s1r (v1 : List (List Int)) (v2 : Int) (v3 : Int) (v14 : Bool) (v16 : Int) (c0 : Heap) (c416 : Bool × Unit) (c608 : Bool × Unit) (r288 : List Int) (r352 : List Span) (r512 : List Int) (r513 : List Span) (r514 : List (List Int)) : Option (SRes (.cons (.sl (.arr 4 cI)) (.cons cI (.cons cI (.cons .bool (.cons cI (.cons cHeap (.cons (.cons .bool .nil) (.cons (.cons .bool .nil) (.cons (.sl (.int .u64)) (.cons (.sl cSpan) (.cons (.sl (.int .u64)) (.cons (.sl cSpan) (.cons (.sl (.arr 4 cI)) .nil))))))))))))) (.cons (.sl (.arr 4 cI)) (.cons cI (.cons cI (.cons .bool (.cons cHeap (.cons (.cons .bool .nil) (.cons (.sl (.int .u64)) (.cons (.sl cSpan) (.cons (.sl (.arr 4 cI)) .nil))))))))) .nil) :=
  bif decide (v16 < (r288.length : Int)) then
    bif decide (0 ≤ v16) then
      bif decide (v16 < (r288.length : Int)) then
        some (.next (v1, v2, v3, v14, wi64 (v16 + 1), c0, c416, c608, r288.set v16.toNat 9, r352, r512, r513, r514, ()))
      else none
    else none
  else
  some (.fin (.out (v1, v2, v3, v14, c0, c608, r512, r513, r514, ())))
def flotsamlaw11_TakeKeeps_o_s1 (x : (List (List Int)) × Int × Int × Bool × Int × Heap × (Bool × Unit) × (Bool × Unit) × (List Int) × (List Span) × (List Int) × (List Span) × (List (List Int)) × Unit) : Option (SRes (.cons (.sl (.arr 4 cI)) (.cons cI (.cons cI (.cons .bool (.cons cI (.cons cHeap (.cons (.cons .bool .nil) (.cons (.cons .bool .nil) (.cons (.sl (.int .u64)) (.cons (.sl cSpan) (.cons (.sl (.int .u64)) (.cons (.sl cSpan) (.cons (.sl (.arr 4 cI)) .nil))))))))))))) (.cons (.sl (.arr 4 cI)) (.cons cI (.cons cI (.cons .bool (.cons cHeap (.cons (.cons .bool .nil) (.cons (.sl (.int .u64)) (.cons (.sl cSpan) (.cons (.sl (.arr 4 cI)) .nil))))))))) .nil) := flotsamlaw11_TakeKeeps_o_s1r x.1 x.2.1 x.2.2.1 x.2.2.2.1 x.2.2.2.2.1 x.2.2.2.2.2.1 x.2.2.2.2.2.2.1 x.2.2.2.2.2.2.2.1 x.2.2.2.2.2.2.2.2.1 x.2.2.2.2.2.2.2.2.2.1 x.2.2.2.2.2.2.2.2.2.2.1 x.2.2.2.2.2.2.2.2.2.2.2.1 x.2.2.2.2.2.2.2.2.2.2.2.2.1
def flotsamlaw11_TakeKeeps_o_l1 (x : (List (List Int)) × Int × Int × Bool × Int × Heap × (Bool × Unit) × (Bool × Unit) × (List Int) × (List Span) × (List Int) × (List Span) × (List (List Int)) × Unit) : Option (LRes (.cons (.sl (.arr 4 cI)) (.cons cI (.cons cI (.cons .bool (.cons cHeap (.cons (.cons .bool .nil) (.cons (.sl (.int .u64)) (.cons (.sl cSpan) (.cons (.sl (.arr 4 cI)) .nil))))))))) .nil) := iterL (h := (.cons (.sl (.arr 4 cI)) (.cons cI (.cons cI (.cons .bool (.cons cI (.cons cHeap (.cons (.cons .bool .nil) (.cons (.cons .bool .nil) (.cons (.sl (.int .u64)) (.cons (.sl cSpan) (.cons (.sl (.int .u64)) (.cons (.sl cSpan) (.cons (.sl (.arr 4 cI)) .nil)))))))))))))) (o := (.cons (.sl (.arr 4 cI)) (.cons cI (.cons cI (.cons .bool (.cons cHeap (.cons (.cons .bool .nil) (.cons (.sl (.int .u64)) (.cons (.sl cSpan) (.cons (.sl (.arr 4 cI)) .nil)))))))))) (r := .nil) flotsamlaw11_TakeKeeps_o_s1 9223372036854775808 x
def flotsamlaw11_TakeKeeps_o_r (a0 : Heap) (a1 : List (List Int)) (a2 : Int) (a3 : Int) : Option (Bool × Unit) :=
  (flotsamlaw11_awake ()).bind fun y1 =>
  bif !y1.1 then
    (flotsamlaw11_awake ()).bind fun y2 =>
    some (y2.1, ())
  else
  (flotsamlaw11_right (a0, a1, a2, ())).bind fun y3 =>
  bif !y3.1 then
    (flotsamlaw11_awake ()).bind fun y4 =>
    some (y4.1, ())
  else
  bif decide ((0 + a1.length) * 32 ≤ 140737488355328) then
    bif decide ((0 + a0.1.length) * 8 ≤ 140737488355328) then
      bif decide ((0 + a0.2.1.length) * 24 ≤ 140737488355328) then
        (take_Take_o ((a0.1, a0.2.1, a0.2.2.1, ()), a1, a2, a3, ())).bind fun y5 =>
        (flotsamref11_Same (a1, a1, ())).bind fun y6 =>
        bif !y6.1 then
          some (false, ())
        else
        (flotsamref07_Same ((a0.1, a0.2.1, a0.2.2.1, ()), a0, ())).bind fun y7 =>
        bif !y7.1 then
          some (false, ())
        else
        (flotsamlaw11_TakeKeeps_o_l0 (a1, a2, a3, y5.2.2.2.1, 0, a0, (a0.2.2.1, ()), y5.1.2.2, a1, a0.1, a0.2.1, y5.1.1, y5.1.2.1, y5.2.1, ())).bind fun s8 => match s8 with
        | .out s8 =>
          (flotsamlaw11_TakeKeeps_o_l1 (s8.1, s8.2.1, s8.2.2.1, s8.2.2.2.1, 0, s8.2.2.2.2.1, s8.2.2.2.2.2.1, s8.2.2.2.2.2.2.1, s8.2.2.2.2.2.2.2.1, s8.2.2.2.2.2.2.2.2.1, s8.2.2.2.2.2.2.2.2.2.1, s8.2.2.2.2.2.2.2.2.2.2.1, s8.2.2.2.2.2.2.2.2.2.2.2.1, ())).bind fun s9 => match s9 with
          | .out s9 =>
            (flotsamref11_Take (s9.2.2.2.2.1, s9.1, s9.2.1, s9.2.2.1, ())).bind fun y10 =>
            bif !s9.2.2.2.1 then
              some (true, ())
            else
            (flotsamref07_Same ((s9.2.2.2.2.2.2.1, s9.2.2.2.2.2.2.2.1, s9.2.2.2.2.2.1), y10.1, ())).bind fun y11 =>
            bif y11.1 then
              (flotsamref11_Same (s9.2.2.2.2.2.2.2.2.1, y10.2.1, ())).bind fun y12 =>
              some (y12.1, ())
            else
            some (false, ())
          | .ret s9 =>
            none
        | .ret s8 =>
          none
      else none
    else none
  else none
def flotsamlaw11_TakeKeeps_o (x : Heap × (List (List Int)) × Int × Int × Unit) : Option (Bool × Unit) := flotsamlaw11_TakeKeeps_o_r x.1 x.2.1 x.2.2.1 x.2.2.2.1
noncomputable def flotsamlaw11_TakeKeeps_o_sm : Sum := ⟨(.cons cHeap (.cons (.sl (.arr 4 cI)) (.cons cI (.cons cI .nil)))), (.cons (.d .bool) .nil), flotsamlaw11_TakeKeeps_o⟩
noncomputable def flotsamlaw11_TakeKeeps_o_L0 : LoopSum := { hc := ⟨[], [1, 2, 3, 4, 9, 10, 11, 12, 14, 15], [], [], [0, 416, 608], [208, 288, 352, 512, 513, 514], 864⟩, h := ⟨[(1, (.d (.sl (.arr 4 cI)))), (2, (.d cI)), (3, (.d cI)), (4, (.pvar 0 [])), (9, (.row 208)), (10, (.pvar 416 [])), (11, (.pvar 608 [])), (12, (.row 514)), (14, (.d .bool)), (15, (.d cI))], [(0, (.d cHeap)), (416, (.cons (.row 288) (.cons (.row 352) (.d (.cons .bool .nil))))), (608, (.cons (.row 512) (.cons (.row 513) (.d (.cons .bool .nil)))))], [(208, (.arr 4 cI), true), (288, (.int .u64), true), (352, cSpan, true), (512, (.int .u64), true), (513, cSpan, true), (514, (.arr 4 cI), true)], 864⟩, xid := 0, oc := ⟨[], [1, 2, 3, 4, 10, 11, 12, 14], [], [], [0, 416, 608], [288, 352, 512, 513, 514], 864⟩, o := ⟨[(1, (.d (.sl (.arr 4 cI)))), (2, (.d cI)), (3, (.d cI)), (4, (.pvar 0 [])), (10, (.pvar 416 [])), (11, (.pvar 608 [])), (12, (.row 514)), (14, (.d .bool))], [(0, (.d cHeap)), (416, (.cons (.row 288) (.cons (.row 352) (.d (.cons .bool .nil))))), (608, (.cons (.row 512) (.cons (.row 513) (.d (.cons .bool .nil)))))], [(288, (.int .u64), true), (352, cSpan, true), (512, (.int .u64), true), (513, cSpan, true), (514, (.arr 4 cI), true)], 864⟩, rc := ⟨[], [], [], [], [864], [], 864⟩, r := ⟨[], [], [], 864⟩, F := flotsamlaw11_TakeKeeps_o_l0 }
noncomputable def flotsamlaw11_TakeKeeps_o_L1 : LoopSum := { hc := ⟨[], [1, 2, 3, 4, 10, 11, 12, 14, 16], [], [], [0, 416, 608], [288, 352, 512, 513, 514], 880⟩, h := ⟨[(1, (.d (.sl (.arr 4 cI)))), (2, (.d cI)), (3, (.d cI)), (4, (.pvar 0 [])), (10, (.pvar 416 [])), (11, (.pvar 608 [])), (12, (.row 514)), (14, (.d .bool)), (16, (.d cI))], [(0, (.d cHeap)), (416, (.cons (.row 288) (.cons (.row 352) (.d (.cons .bool .nil))))), (608, (.cons (.row 512) (.cons (.row 513) (.d (.cons .bool .nil)))))], [(288, (.int .u64), true), (352, cSpan, true), (512, (.int .u64), true), (513, cSpan, true), (514, (.arr 4 cI), true)], 880⟩, xid := 2, oc := ⟨[], [1, 2, 3, 4, 11, 12, 14], [], [], [0, 608], [512, 513, 514], 880⟩, o := ⟨[(1, (.d (.sl (.arr 4 cI)))), (2, (.d cI)), (3, (.d cI)), (4, (.pvar 0 [])), (11, (.pvar 608 [])), (12, (.row 514)), (14, (.d .bool))], [(0, (.d cHeap)), (608, (.cons (.row 512) (.cons (.row 513) (.d (.cons .bool .nil)))))], [(512, (.int .u64), true), (513, cSpan, true), (514, (.arr 4 cI), true)], 880⟩, rc := ⟨[], [], [], [], [880], [], 880⟩, r := ⟨[], [], [], 880⟩, F := flotsamlaw11_TakeKeeps_o_l1 }
noncomputable def flotsamlaw11_TakeKeeps_o_S : List (Nat × Sum) := [(9, flotsamlaw11_awake_sm), (15, flotsamlaw11_right_sm), (18, take_Take_o_sm), (19, flotsamref11_Take_sm), (20, flotsamref07_Same_sm), (21, flotsamref11_Same_sm)]
noncomputable def flotsamlaw11_TakeKeeps_o_fl : List (Nat × Func) := []
noncomputable def flotsamlaw11_TakeKeeps_o_es : List AE := [⟨8, 7, 0, 0, flotsamlaw11_TakeKeeps_o_L0⟩, ⟨8, 7, 0, 2, flotsamlaw11_TakeKeeps_o_L1⟩]
theorem flotsamlaw11_TakeKeeps_o_den0 : (fun x => denStep TEv (look1 flotsamlaw11_TakeKeeps_o_S) (look1 flotsamlaw11_TakeKeeps_o_fl) (annOf flotsamlaw11_TakeKeeps_o_es) 8 7 Go.Proofs.Tryd.f7.ntmps 0 (cat (bodyOf Go.Proofs.Tryd.f7) [true, true, true, true, true, true, false, true, false, false]) flotsamlaw11_TakeKeeps_o_L0 x) = flotsamlaw11_TakeKeeps_o_s0 := by kernel_rfl
theorem flotsamlaw11_TakeKeeps_o_den1 : (fun x => denStep TEv (look1 flotsamlaw11_TakeKeeps_o_S) (look1 flotsamlaw11_TakeKeeps_o_fl) (annOf flotsamlaw11_TakeKeeps_o_es) 8 7 Go.Proofs.Tryd.f7.ntmps 0 (cat (bodyOf Go.Proofs.Tryd.f7) [true, true, true, true, true, true, true, false, true, false, false]) flotsamlaw11_TakeKeeps_o_L1 x) = flotsamlaw11_TakeKeeps_o_s1 := by kernel_rfl
theorem flotsamlaw11_TakeKeeps_o_den : (fun x => denFun TEv (look1 flotsamlaw11_TakeKeeps_o_S) (look1 flotsamlaw11_TakeKeeps_o_fl) (annOf flotsamlaw11_TakeKeeps_o_es) 8 7 Go.Proofs.Tryd.f7 flotsamlaw11_TakeKeeps_o_sm.a flotsamlaw11_TakeKeeps_o_sm.r x) = flotsamlaw11_TakeKeeps_o_sm.F := by kernel_rfl
theorem flotsamlaw11_TakeKeeps_o_ok0 : AEok Go.Proofs.Tryd.prog TEv (look1 flotsamlaw11_TakeKeeps_o_S) (look1 flotsamlaw11_TakeKeeps_o_fl) (annOf flotsamlaw11_TakeKeeps_o_es) ⟨8, 7, 0, 0, flotsamlaw11_TakeKeeps_o_L0⟩ := aeok_of 9223372036854775808 Go.Proofs.Tryd.func7 (by kernel_rfl) flotsamlaw11_TakeKeeps_o_den0 (by kernel_rfl)
theorem flotsamlaw11_TakeKeeps_o_ok1 : AEok Go.Proofs.Tryd.prog TEv (look1 flotsamlaw11_TakeKeeps_o_S) (look1 flotsamlaw11_TakeKeeps_o_fl) (annOf flotsamlaw11_TakeKeeps_o_es) ⟨8, 7, 0, 2, flotsamlaw11_TakeKeeps_o_L1⟩ := aeok_of 9223372036854775808 Go.Proofs.Tryd.func7 (by kernel_rfl) flotsamlaw11_TakeKeeps_o_den1 (by kernel_rfl)
theorem flotsamlaw11_TakeKeeps_o_sem : SemOf Go.Proofs.Tryd.prog 7 flotsamlaw11_TakeKeeps_o_sm :=
  semMk teOk (sl := flotsamlaw11_TakeKeeps_o_S) (all_cons flotsamlaw11_awake_sem (all_cons flotsamlaw11_right_sem (all_cons take_Take_o_sem (all_cons flotsamref11_Take_sem (all_cons flotsamref07_Same_sem (all_cons flotsamref11_Same_sem all_nil)))))) (fl := flotsamlaw11_TakeKeeps_o_fl) (all_nil) (es := flotsamlaw11_TakeKeeps_o_es) Go.Proofs.Tryd.func7 (by kernel_rfl) rfl (all_cons flotsamlaw11_TakeKeeps_o_ok0 (all_cons flotsamlaw11_TakeKeeps_o_ok1 (all_nil))) rfl flotsamlaw11_TakeKeeps_o_den

/-! ### flotsam/flotsamlaw11.TakeKeeps -/
def flotsamlaw11_TakeKeeps_n_s0r (v1 : List (List Int)) (v2 : Int) (v3 : Int) (v14 : Bool) (v15 : Int) (c0 : Heap) (c416 : Bool × Unit) (c608 : Unit) (r208 : List (List Int)) (r288 : List Int) (r352 : List Span) : Option (SRes (.cons (.sl (.arr 4 cI)) (.cons cI (.cons cI (.cons .bool (.cons cI (.cons cHeap (.cons (.cons .bool .nil) (.cons .nil (.cons (.sl (.arr 4 cI)) (.cons (.sl (.int .u64)) (.cons (.sl cSpan) .nil))))))))))) (.cons (.sl (.arr 4 cI)) (.cons cI (.cons cI (.cons .bool (.cons cHeap (.cons (.cons .bool .nil) (.cons .nil (.cons (.sl (.int .u64)) (.cons (.sl cSpan) .nil))))))))) .nil) :=
  bif decide (v15 < (r208.length : Int)) then
    bif decide (0 ≤ v15) then
      bif decide (v15 < (r208.length : Int)) then
        some (.next (v1, v2, v3, v14, wi64 (v15 + 1), c0, c416, c608, r208.set v15.toNat ([9, 9, 9, 9] : List Int), r288, r352, ()))
      else none
    else none
  else
  some (.fin (.out (v1, v2, v3, v14, c0, c416, c608, r288, r352, ())))
def flotsamlaw11_TakeKeeps_n_s0 (x : (List (List Int)) × Int × Int × Bool × Int × Heap × (Bool × Unit) × Unit × (List (List Int)) × (List Int) × (List Span) × Unit) : Option (SRes (.cons (.sl (.arr 4 cI)) (.cons cI (.cons cI (.cons .bool (.cons cI (.cons cHeap (.cons (.cons .bool .nil) (.cons .nil (.cons (.sl (.arr 4 cI)) (.cons (.sl (.int .u64)) (.cons (.sl cSpan) .nil))))))))))) (.cons (.sl (.arr 4 cI)) (.cons cI (.cons cI (.cons .bool (.cons cHeap (.cons (.cons .bool .nil) (.cons .nil (.cons (.sl (.int .u64)) (.cons (.sl cSpan) .nil))))))))) .nil) := flotsamlaw11_TakeKeeps_n_s0r x.1 x.2.1 x.2.2.1 x.2.2.2.1 x.2.2.2.2.1 x.2.2.2.2.2.1 x.2.2.2.2.2.2.1 x.2.2.2.2.2.2.2.1 x.2.2.2.2.2.2.2.2.1 x.2.2.2.2.2.2.2.2.2.1 x.2.2.2.2.2.2.2.2.2.2.1
def flotsamlaw11_TakeKeeps_n_l0 (x : (List (List Int)) × Int × Int × Bool × Int × Heap × (Bool × Unit) × Unit × (List (List Int)) × (List Int) × (List Span) × Unit) : Option (LRes (.cons (.sl (.arr 4 cI)) (.cons cI (.cons cI (.cons .bool (.cons cHeap (.cons (.cons .bool .nil) (.cons .nil (.cons (.sl (.int .u64)) (.cons (.sl cSpan) .nil))))))))) .nil) := iterL (h := (.cons (.sl (.arr 4 cI)) (.cons cI (.cons cI (.cons .bool (.cons cI (.cons cHeap (.cons (.cons .bool .nil) (.cons .nil (.cons (.sl (.arr 4 cI)) (.cons (.sl (.int .u64)) (.cons (.sl cSpan) .nil)))))))))))) (o := (.cons (.sl (.arr 4 cI)) (.cons cI (.cons cI (.cons .bool (.cons cHeap (.cons (.cons .bool .nil) (.cons .nil (.cons (.sl (.int .u64)) (.cons (.sl cSpan) .nil)))))))))) (r := .nil) flotsamlaw11_TakeKeeps_n_s0 9223372036854775808 x
def flotsamlaw11_TakeKeeps_n_s1r (v1 : List (List Int)) (v2 : Int) (v3 : Int) (v14 : Bool) (v16 : Int) (c0 : Heap) (c416 : Bool × Unit) (c608 : Unit) (r288 : List Int) (r352 : List Span) : Option (SRes (.cons (.sl (.arr 4 cI)) (.cons cI (.cons cI (.cons .bool (.cons cI (.cons cHeap (.cons (.cons .bool .nil) (.cons .nil (.cons (.sl (.int .u64)) (.cons (.sl cSpan) .nil)))))))))) (.cons (.sl (.arr 4 cI)) (.cons cI (.cons cI (.cons .bool (.cons cHeap (.cons .nil .nil)))))) .nil) :=
  bif decide (v16 < (r288.length : Int)) then
    bif decide (0 ≤ v16) then
      bif decide (v16 < (r288.length : Int)) then
        some (.next (v1, v2, v3, v14, wi64 (v16 + 1), c0, c416, c608, r288.set v16.toNat 9, r352, ()))
      else none
    else none
  else
  some (.fin (.out (v1, v2, v3, v14, c0, c608, ())))
def flotsamlaw11_TakeKeeps_n_s1 (x : (List (List Int)) × Int × Int × Bool × Int × Heap × (Bool × Unit) × Unit × (List Int) × (List Span) × Unit) : Option (SRes (.cons (.sl (.arr 4 cI)) (.cons cI (.cons cI (.cons .bool (.cons cI (.cons cHeap (.cons (.cons .bool .nil) (.cons .nil (.cons (.sl (.int .u64)) (.cons (.sl cSpan) .nil)))))))))) (.cons (.sl (.arr 4 cI)) (.cons cI (.cons cI (.cons .bool (.cons cHeap (.cons .nil .nil)))))) .nil) := flotsamlaw11_TakeKeeps_n_s1r x.1 x.2.1 x.2.2.1 x.2.2.2.1 x.2.2.2.2.1 x.2.2.2.2.2.1 x.2.2.2.2.2.2.1 x.2.2.2.2.2.2.2.1 x.2.2.2.2.2.2.2.2.1 x.2.2.2.2.2.2.2.2.2.1
def flotsamlaw11_TakeKeeps_n_l1 (x : (List (List Int)) × Int × Int × Bool × Int × Heap × (Bool × Unit) × Unit × (List Int) × (List Span) × Unit) : Option (LRes (.cons (.sl (.arr 4 cI)) (.cons cI (.cons cI (.cons .bool (.cons cHeap (.cons .nil .nil)))))) .nil) := iterL (h := (.cons (.sl (.arr 4 cI)) (.cons cI (.cons cI (.cons .bool (.cons cI (.cons cHeap (.cons (.cons .bool .nil) (.cons .nil (.cons (.sl (.int .u64)) (.cons (.sl cSpan) .nil))))))))))) (o := (.cons (.sl (.arr 4 cI)) (.cons cI (.cons cI (.cons .bool (.cons cHeap (.cons .nil .nil))))))) (r := .nil) flotsamlaw11_TakeKeeps_n_s1 9223372036854775808 x
def flotsamlaw11_TakeKeeps_n_r (a0 : Heap) (a1 : List (List Int)) (a2 : Int) (a3 : Int) : Option (Bool × Unit) :=
  (flotsamlaw11_awake ()).bind fun y1 =>
  bif !y1.1 then
    (flotsamlaw11_awake ()).bind fun y2 =>
    some (y2.1, ())
  else
  (flotsamlaw11_right (a0, a1, a2, ())).bind fun y3 =>
  bif !y3.1 then
    (flotsamlaw11_awake ()).bind fun y4 =>
    some (y4.1, ())
  else
  bif decide ((0 + a1.length) * 32 ≤ 140737488355328) then
    bif decide ((0 + a0.1.length) * 8 ≤ 140737488355328) then
      bif decide ((0 + a0.2.1.length) * 24 ≤ 140737488355328) then
        (take_Take_n ((a0.1, a0.2.1, a0.2.2.1, ()), a1, a2, a3, ())).bind fun y5 =>
        (flotsamref11_Same (a1, a1, ())).bind fun y6 =>
        bif !y6.1 then
          some (false, ())
        else
        (flotsamref07_Same ((a0.1, a0.2.1, a0.2.2.1, ()), a0, ())).bind fun y7 =>
        bif !y7.1 then
          some (false, ())
        else
        (flotsamlaw11_TakeKeeps_n_l0 (a1, a2, a3, y5.2.2.2.1, 0, a0, (a0.2.2.1, ()), (), a1, a0.1, a0.2.1, ())).bind fun s8 => match s8 with
        | .out s8 =>
          (flotsamlaw11_TakeKeeps_n_l1 (s8.1, s8.2.1, s8.2.2.1, s8.2.2.2.1, 0, s8.2.2.2.2.1, s8.2.2.2.2.2.1, s8.2.2.2.2.2.2.1, s8.2.2.2.2.2.2.2.1, s8.2.2.2.2.2.2.2.2.1, ())).bind fun s9 => match s9 with
          | .out s9 =>
            (flotsamref11_Take (s9.2.2.2.2.1, s9.1, s9.2.1, s9.2.2.1, ())).bind fun y10 =>
            bif !s9.2.2.2.1 then
              some (true, ())
            else none
          | .ret s9 =>
            none
        | .ret s8 =>
          none
      else none
    else none
  else none
def flotsamlaw11_TakeKeeps_n (x : Heap × (List (List Int)) × Int × Int × Unit) : Option (Bool × Unit) := flotsamlaw11_TakeKeeps_n_r x.1 x.2.1 x.2.2.1 x.2.2.2.1
noncomputable def flotsamlaw11_TakeKeeps_n_sm : Sum := ⟨(.cons cHeap (.cons (.sl (.arr 4 cI)) (.cons cI (.cons cI .nil)))), (.cons (.d .bool) .nil), flotsamlaw11_TakeKeeps_n⟩
noncomputable def flotsamlaw11_TakeKeeps_n_L0 : LoopSum := { hc := ⟨[], [1, 2, 3, 4, 9, 10, 11, 12, 14, 15], [], [], [0, 416, 608], [208, 288, 352], 864⟩, h := ⟨[(1, (.d (.sl (.arr 4 cI)))), (2, (.d cI)), (3, (.d cI)), (4, (.pvar 0 [])), (9, (.row 208)), (10, (.pvar 416 [])), (11, (.pvar 608 [])), (12, .undef), (14, (.d .bool)), (15, (.d cI))], [(0, (.d cHeap)), (416, (.cons (.row 288) (.cons (.row 352) (.d (.cons .bool .nil))))), (608, (.cons .undef (.cons .undef (.cons .undef (.d .nil)))))], [(208, (.arr 4 cI), true), (288, (.int .u64), true), (352, cSpan, true)], 864⟩, xid := 0, oc := ⟨[], [1, 2, 3, 4, 10, 11, 14], [], [], [0, 416, 608], [288, 352], 864⟩, o := ⟨[(1, (.d (.sl (.arr 4 cI)))), (2, (.d cI)), (3, (.d cI)), (4, (.pvar 0 [])), (10, (.pvar 416 [])), (11, (.pvar 608 [])), (14, (.d .bool))], [(0, (.d cHeap)), (416, (.cons (.row 288) (.cons (.row 352) (.d (.cons .bool .nil))))), (608, (.cons .undef (.cons .undef (.cons .undef (.d .nil)))))], [(288, (.int .u64), true), (352, cSpan, true)], 864⟩, rc := ⟨[], [], [], [], [864], [], 864⟩, r := ⟨[], [], [], 864⟩, F := flotsamlaw11_TakeKeeps_n_l0 }
noncomputable def flotsamlaw11_TakeKeeps_n_L1 : LoopSum := { hc := ⟨[], [1, 2, 3, 4, 10, 11, 14, 16], [], [], [0, 416, 608], [288, 352], 880⟩, h := ⟨[(1, (.d (.sl (.arr 4 cI)))), (2, (.d cI)), (3, (.d cI)), (4, (.pvar 0 [])), (10, (.pvar 416 [])), (11, (.pvar 608 [])), (14, (.d .bool)), (16, (.d cI))], [(0, (.d cHeap)), (416, (.cons (.row 288) (.cons (.row 352) (.d (.cons .bool .nil))))), (608, (.cons .undef (.cons .undef (.cons .undef (.d .nil)))))], [(288, (.int .u64), true), (352, cSpan, true)], 880⟩, xid := 2, oc := ⟨[], [1, 2, 3, 4, 11, 14], [], [], [0, 608], [], 880⟩, o := ⟨[(1, (.d (.sl (.arr 4 cI)))), (2, (.d cI)), (3, (.d cI)), (4, (.pvar 0 [])), (11, (.pvar 608 [])), (14, (.d .bool))], [(0, (.d cHeap)), (608, (.cons .undef (.cons .undef (.cons .undef (.d .nil)))))], [], 880⟩, rc := ⟨[], [], [], [], [880], [], 880⟩, r := ⟨[], [], [], 880⟩, F := flotsamlaw11_TakeKeeps_n_l1 }
noncomputable def flotsamlaw11_TakeKeeps_n_S : List (Nat × Sum) := [(9, flotsamlaw11_awake_sm), (15, flotsamlaw11_right_sm), (18, take_Take_n_sm), (19, flotsamref11_Take_sm), (20, flotsamref07_Same_sm), (21, flotsamref11_Same_sm)]
noncomputable def flotsamlaw11_TakeKeeps_n_fl : List (Nat × Func) := []
noncomputable def flotsamlaw11_TakeKeeps_n_es : List AE := [⟨8, 7, 0, 0, flotsamlaw11_TakeKeeps_n_L0⟩, ⟨8, 7, 0, 2, flotsamlaw11_TakeKeeps_n_L1⟩]
theorem flotsamlaw11_TakeKeeps_n_den0 : (fun x => denStep TEv (look1 flotsamlaw11_TakeKeeps_n_S) (look1 flotsamlaw11_TakeKeeps_n_fl) (annOf flotsamlaw11_TakeKeeps_n_es) 8 7 Go.Proofs.Tryd.f7.ntmps 0 (cat (bodyOf Go.Proofs.Tryd.f7) [true, true, true, true, true, true, false, true, false, false]) flotsamlaw11_TakeKeeps_n_L0 x) = flotsamlaw11_TakeKeeps_n_s0 := by kernel_rfl
theorem flotsamlaw11_TakeKeeps_n_den1 : (fun x => denStep TEv (look1 flotsamlaw11_TakeKeeps_n_S) (look1 flotsamlaw11_TakeKeeps_n_fl) (annOf flotsamlaw11_TakeKeeps_n_es) 8 7 Go.Proofs.Tryd.f7.ntmps 0 (cat (bodyOf Go.Proofs.Tryd.f7) [true, true, true, true, true, true, true, false, true, false, false]) flotsamlaw11_TakeKeeps_n_L1 x) = flotsamlaw11_TakeKeeps_n_s1 := by kernel_rfl
theorem flotsamlaw11_TakeKeeps_n_den : (fun x => denFun TEv (look1 flotsamlaw11_TakeKeeps_n_S) (look1 flotsamlaw11_TakeKeeps_n_fl) (annOf flotsamlaw11_TakeKeeps_n_es) 8 7 Go.Proofs.Tryd.f7 flotsamlaw11_TakeKeeps_n_sm.a flotsamlaw11_TakeKeeps_n_sm.r x) = flotsamlaw11_TakeKeeps_n_sm.F := by kernel_rfl
theorem flotsamlaw11_TakeKeeps_n_ok0 : AEok Go.Proofs.Tryd.prog TEv (look1 flotsamlaw11_TakeKeeps_n_S) (look1 flotsamlaw11_TakeKeeps_n_fl) (annOf flotsamlaw11_TakeKeeps_n_es) ⟨8, 7, 0, 0, flotsamlaw11_TakeKeeps_n_L0⟩ := aeok_of 9223372036854775808 Go.Proofs.Tryd.func7 (by kernel_rfl) flotsamlaw11_TakeKeeps_n_den0 (by kernel_rfl)
theorem flotsamlaw11_TakeKeeps_n_ok1 : AEok Go.Proofs.Tryd.prog TEv (look1 flotsamlaw11_TakeKeeps_n_S) (look1 flotsamlaw11_TakeKeeps_n_fl) (annOf flotsamlaw11_TakeKeeps_n_es) ⟨8, 7, 0, 2, flotsamlaw11_TakeKeeps_n_L1⟩ := aeok_of 9223372036854775808 Go.Proofs.Tryd.func7 (by kernel_rfl) flotsamlaw11_TakeKeeps_n_den1 (by kernel_rfl)
theorem flotsamlaw11_TakeKeeps_n_sem : SemOf Go.Proofs.Tryd.prog 7 flotsamlaw11_TakeKeeps_n_sm :=
  semMk teOk (sl := flotsamlaw11_TakeKeeps_n_S) (all_cons flotsamlaw11_awake_sem (all_cons flotsamlaw11_right_sem (all_cons take_Take_n_sem (all_cons flotsamref11_Take_sem (all_cons flotsamref07_Same_sem (all_cons flotsamref11_Same_sem all_nil)))))) (fl := flotsamlaw11_TakeKeeps_n_fl) (all_nil) (es := flotsamlaw11_TakeKeeps_n_es) Go.Proofs.Tryd.func7 (by kernel_rfl) rfl (all_cons flotsamlaw11_TakeKeeps_n_ok0 (all_cons flotsamlaw11_TakeKeeps_n_ok1 (all_nil))) rfl flotsamlaw11_TakeKeeps_n_den

def flotsamlaw11_TakeKeeps : (Heap × (List (List Int)) × Int × Int × Unit) → Option (Bool × Unit) := anyTrue [flotsamlaw11_TakeKeeps_o, flotsamlaw11_TakeKeeps_n]
noncomputable def flotsamlaw11_TakeKeeps_sm : Sum := ⟨(.cons cHeap (.cons (.sl (.arr 4 cI)) (.cons cI (.cons cI .nil)))), (.cons (.d .bool) .nil), flotsamlaw11_TakeKeeps⟩
theorem flotsamlaw11_TakeKeeps_sem : SemOf Go.Proofs.Tryd.prog 7 flotsamlaw11_TakeKeeps_sm := semAny (a := (.cons cHeap (.cons (.sl (.arr 4 cI)) (.cons cI (.cons cI .nil))))) flotsamlaw11_TakeKeeps_o_sem (l := [flotsamlaw11_TakeKeeps_o, flotsamlaw11_TakeKeeps_n]) (all_cons flotsamlaw11_TakeKeeps_o_sem (all_cons flotsamlaw11_TakeKeeps_n_sem (all_nil)))
end Go.Proofs.YtebdioogklmeaaaDoor.Den
