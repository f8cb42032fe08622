/- What functions come to. Printed by a program of this session. -/
import Derived.Test.YtdiogegolnoeoaaDoorDenF0
namespace Go.Proofs.YtdiogegolnoeoaaDoor.Den
open Go
set_option maxRecDepth 100000
set_option linter.unusedVariables false
/-! ### flotsam/reach.From -/
def reach_From_s0r (c0 : Heap) (c32 : List (Int × Bool × Unit)) (r112 : List Int) : Option (SRes (.cons cHeap (.cons (.sl (.cons cI (.cons .bool .nil))) (.cons (.sl cI) .nil))) (.cons (.sl (.cons cI (.cons .bool .nil))) .nil) .nil) :=
  bif decide ((r112.length : Int) > 0) then
    bif decide (0 ≤ (wi64 ((r112.length : Int) - 1))) then
      bif decide ((wi64 ((r112.length : Int) - 1)) < (r112.length : Int)) then
        bif decide (0 ≤ (wi64 ((r112.length : Int) - 1))) then
          bif decide ((wi64 ((r112.length : Int) - 1)) ≤ (r112.length : Int)) then
            (object_Get (c0, r112.getD (wi64 ((r112.length : Int) - 1)).toNat 0, ())).bind fun y2 =>
            bif !y2.2.1 then
              some (.next (c0, c32, (r112.drop 0).take ((wi64 ((r112.length : Int) - 1)).toNat - 0), ()))
            else
            bif mget false c32 (r112.getD (wi64 ((r112.length : Int) - 1)).toNat 0) then
              some (.next (c0, c32, (r112.drop 0).take ((wi64 ((r112.length : Int) - 1)).toNat - 0), ()))
            else
            bif decide (c32.length < 9223372036854775807) then
              (object_Refs (c0, r112.getD (wi64 ((r112.length : Int) - 1)).toNat 0, ())).bind fun y3 =>
              bif decide ((((r112.drop 0).take ((wi64 ((r112.length : Int) - 1)).toNat - 0)).length + y3.1.length) * 8 ≤ 140737488355328) then
                some (.next (c0, mput c32 (r112.getD (wi64 ((r112.length : Int) - 1)).toNat 0) true, ((r112.drop 0).take ((wi64 ((r112.length : Int) - 1)).toNat - 0)) ++ y3.1, ()))
              else none
            else none
          else none
        else none
      else none
    else none
  else
  some (.fin (.out (c32, ())))
def reach_From_s0 (x : Heap × (List (Int × Bool × Unit)) × (List Int) × Unit) : Option (SRes (.cons cHeap (.cons (.sl (.cons cI (.cons .bool .nil))) (.cons (.sl cI) .nil))) (.cons (.sl (.cons cI (.cons .bool .nil))) .nil) .nil) := reach_From_s0r x.1 x.2.1 x.2.2.1
def reach_From_l0 (x : Heap × (List (Int × Bool × Unit)) × (List Int) × Unit) : Option (LRes (.cons (.sl (.cons cI (.cons .bool .nil))) .nil) .nil) := iterL (h := (.cons cHeap (.cons (.sl (.cons cI (.cons .bool .nil))) (.cons (.sl cI) .nil)))) (o := (.cons (.sl (.cons cI (.cons .bool .nil))) .nil)) (r := .nil) reach_From_s0 9223372036854775808 x
def reach_From_r (a0 : Heap) (a1 : List Val) : Option ((List Int) × Unit) :=
  (roots_Refs (a1, ())).bind fun y1 =>
  (reach_From_l0 (a0, [], y1.1, ())).bind fun s4 => match s4 with
  | .out s4 =>
    bif s4.1.all fun p => inI64 p.1 then
      bif decide (s4.1.length * 8 ≤ 140737488355328) then
        some (isort (s4.1.map fun p => p.1), ())
      else none
    else none
  | .ret s4 =>
    none
def reach_From (x : Heap × (List Val) × Unit) : Option ((List Int) × Unit) := reach_From_r x.1 x.2.1
noncomputable def reach_From_sm : Sum := ⟨(.cons cHeap (.cons (.sl cVal) .nil)), (.cons (.own cI) .nil), reach_From⟩
noncomputable def reach_From_L0 : LoopSum := { hc := ⟨[], [2, 5, 6], [(.tmp 6, cI)], [], [0, 32], [], 112⟩, h := ⟨[(2, (.pvar 0 [])), (5, (.mp 32)), (6, (.row 112))], [(0, (.d cHeap)), (32, (.mapd .bool))], [(112, cI, true)], 113⟩, xid := 0, oc := ⟨[], [5], [], [], [32], [], 112⟩, o := ⟨[(5, (.mp 32))], [(32, (.mapd .bool))], [], 112⟩, rc := ⟨[], [], [], [], [112], [], 112⟩, r := ⟨[], [], [], 112⟩, F := reach_From_l0 }
noncomputable def reach_From_S : List (Nat × Sum) := [(52, roots_Refs_sm), (53, object_Get_sm), (54, object_Refs_sm)]
noncomputable def reach_From_fl : List (Nat × Func) := [(56, Go.Proofs.Tryd.f56)]
noncomputable def reach_From_es : List AE := [⟨8, 27, 0, 0, reach_From_L0⟩]
theorem reach_From_den0 : (fun x => denStep TEv (look1 reach_From_S) (look1 reach_From_fl) (annOf reach_From_es) 8 27 Go.Proofs.Tryd.f27.ntmps 0 (cat (bodyOf Go.Proofs.Tryd.f27) [true, true, false, true, false, false]) reach_From_L0 x) = reach_From_s0 := by kernel_rfl
theorem reach_From_den : (fun x => denFun TEv (look1 reach_From_S) (look1 reach_From_fl) (annOf reach_From_es) 8 27 Go.Proofs.Tryd.f27 reach_From_sm.a reach_From_sm.r x) = reach_From_sm.F := by kernel_rfl
theorem reach_From_ok0 : AEok Go.Proofs.Tryd.prog TEv (look1 reach_From_S) (look1 reach_From_fl) (annOf reach_From_es) ⟨8, 27, 0, 0, reach_From_L0⟩ := aeok_of 9223372036854775808 Go.Proofs.Tryd.func27 (by kernel_rfl) reach_From_den0 (by kernel_rfl)
theorem reach_From_sem : SemOf Go.Proofs.Tryd.prog 27 reach_From_sm :=
  semMk teOk (sl := reach_From_S) (all_cons roots_Refs_sem (all_cons object_Get_sem (all_cons object_Refs_sem all_nil))) (fl := reach_From_fl) (all_cons ⟨⟨Go.Proofs.Tryd.func56, by kernel_rfl⟩, rng_none (by kernel_rfl) (by kernel_rfl)⟩ (all_nil)) (es := reach_From_es) Go.Proofs.Tryd.func27 (by kernel_rfl) rfl (rng_none (by kernel_rfl) (by kernel_rfl)) (all_cons reach_From_ok0 (all_nil)) rfl reach_From_den

/-! ### flotsam/reach.Words -/
def reach_Words_s0r (v6 : Int) (v12 : List Int) (v13 : Int) (v14 : Int) (c0 : Heap) (c32 : List (Int × Bool × Unit)) : Option (SRes (.cons cI (.cons (.sl cI) (.cons cI (.cons cI (.cons cHeap (.cons (.sl (.cons cI (.cons .bool .nil))) .nil)))))) (.cons cI .nil) .nil) :=
  bif decide (v14 < v13) then
    bif decide (0 ≤ v14) then
      bif decide (v14 < (v12.length : Int)) then
        (object_Get (c0, v12.getD v14.toNat 0, ())).bind fun y1 =>
        bif y1.2.1 then
          bif !(mget false c32 (v12.getD v14.toNat 0)) then
            (class_Words (y1.1.2.2.1, ())).bind fun y2 =>
            bif decide (c32.length < 9223372036854775807) then
              some (.next (wi64 (v6 + y2.1), v12, v13, wi64 (v14 + 1), c0, mput c32 (v12.getD v14.toNat 0) true, ()))
            else none
          else
          bif decide (c32.length < 9223372036854775807) then
            some (.next (v6, v12, v13, wi64 (v14 + 1), c0, mput c32 (v12.getD v14.toNat 0) true, ()))
          else none
        else
        bif decide (c32.length < 9223372036854775807) then
          some (.next (v6, v12, v13, wi64 (v14 + 1), c0, mput c32 (v12.getD v14.toNat 0) true, ()))
        else none
      else none
    else none
  else
  some (.fin (.out (v6, ())))
def reach_Words_s0 (x : Int × (List Int) × Int × Int × Heap × (List (Int × Bool × Unit)) × Unit) : Option (SRes (.cons cI (.cons (.sl cI) (.cons cI (.cons cI (.cons cHeap (.cons (.sl (.cons cI (.cons .bool .nil))) .nil)))))) (.cons cI .nil) .nil) := reach_Words_s0r x.1 x.2.1 x.2.2.1 x.2.2.2.1 x.2.2.2.2.1 x.2.2.2.2.2.1
def reach_Words_l0 (x : Int × (List Int) × Int × Int × Heap × (List (Int × Bool × Unit)) × Unit) : Option (LRes (.cons cI .nil) .nil) := iterL (h := (.cons cI (.cons (.sl cI) (.cons cI (.cons cI (.cons cHeap (.cons (.sl (.cons cI (.cons .bool .nil))) .nil))))))) (o := (.cons cI .nil)) (r := .nil) reach_Words_s0 9223372036854775808 x
def reach_Words_r (a0 : Heap) (a1 : List Int) : Option (Int × Unit) :=
  (reach_Words_l0 (0, a1, (a1.length : Int), 0, a0, [], ())).bind fun s3 => match s3 with
  | .out s3 =>
    some (s3.1, ())
  | .ret s3 =>
    none
def reach_Words (x : Heap × (List Int) × Unit) : Option (Int × Unit) := reach_Words_r x.1 x.2.1
noncomputable def reach_Words_sm : Sum := ⟨(.cons cHeap (.cons (.sl cI) .nil)), (.cons (.d cI) .nil), reach_Words⟩
noncomputable def reach_Words_L0 : LoopSum := { hc := ⟨[], [2, 5, 6, 12, 13, 14], [], [], [0, 32], [], 128⟩, h := ⟨[(2, (.pvar 0 [])), (5, (.mp 32)), (6, (.d cI)), (12, (.d (.sl cI))), (13, (.d cI)), (14, (.d cI))], [(0, (.d cHeap)), (32, (.mapd .bool))], [], 128⟩, xid := 0, oc := ⟨[], [6], [], [], [], [], 128⟩, o := ⟨[(6, (.d cI))], [], [], 128⟩, rc := ⟨[], [], [], [], [128], [], 128⟩, r := ⟨[], [], [], 128⟩, F := reach_Words_l0 }
noncomputable def reach_Words_S : List (Nat × Sum) := [(53, object_Get_sm), (57, class_Words_sm)]
noncomputable def reach_Words_fl : List (Nat × Func) := []
noncomputable def reach_Words_es : List AE := [⟨8, 28, 0, 0, reach_Words_L0⟩]
theorem reach_Words_den0 : (fun x => denStep TEv (look1 reach_Words_S) (look1 reach_Words_fl) (annOf reach_Words_es) 8 28 Go.Proofs.Tryd.f28.ntmps 0 (cat (bodyOf Go.Proofs.Tryd.f28) [true, true, true, false, true, false, false]) reach_Words_L0 x) = reach_Words_s0 := by kernel_rfl
theorem reach_Words_den : (fun x => denFun TEv (look1 reach_Words_S) (look1 reach_Words_fl) (annOf reach_Words_es) 8 28 Go.Proofs.Tryd.f28 reach_Words_sm.a reach_Words_sm.r x) = reach_Words_sm.F := by kernel_rfl
theorem reach_Words_ok0 : AEok Go.Proofs.Tryd.prog TEv (look1 reach_Words_S) (look1 reach_Words_fl) (annOf reach_Words_es) ⟨8, 28, 0, 0, reach_Words_L0⟩ := aeok_of 9223372036854775808 Go.Proofs.Tryd.func28 (by kernel_rfl) reach_Words_den0 (by kernel_rfl)
theorem reach_Words_sem : SemOf Go.Proofs.Tryd.prog 28 reach_Words_sm :=
  semMk teOk (sl := reach_Words_S) (all_cons object_Get_sem (all_cons class_Words_sem all_nil)) (fl := reach_Words_fl) (all_nil) (es := reach_Words_es) Go.Proofs.Tryd.func28 (by kernel_rfl) rfl (rng_none (by kernel_rfl) (by kernel_rfl)) (all_cons reach_Words_ok0 (all_nil)) rfl reach_Words_den

/-! ### flotsam/flotsamref07.with -/
def flotsamref07_with_s0r (v1 : Int) (v8 : Int) (c0 : Heap) (c16 : Span) (c32 : Bool × Unit) (c96 : Bool × Unit) (r192 : List Int) (r256 : List Span) : Option (SRes (.cons cI (.cons cI (.cons cHeap (.cons cSpan (.cons (.cons .bool .nil) (.cons (.cons .bool .nil) (.cons (.sl (.int .u64)) (.cons (.sl cSpan) .nil)))))))) (.cons (.cons .bool .nil) (.cons (.cons .bool .nil) (.cons (.sl (.int .u64)) (.cons (.sl cSpan) .nil)))) .nil) :=
  bif decide (v8 < (c0.2.1.length : Int)) then
    bif decide (0 ≤ v8) then
      bif decide (v8 < (c0.2.1.length : Int)) then
        bif v8 == v1 then
          bif decide ((r256.length + 1) * 24 ≤ 140737488355328) then
            some (.next (v1, wi64 (v8 + 1), c0, c16, c32, c96, r192, r256 ++ [c16], ()))
          else none
        else
        bif decide ((r256.length + 1) * 24 ≤ 140737488355328) then
          some (.next (v1, wi64 (v8 + 1), c0, c16, c32, c96, r192, r256 ++ [c0.2.1.getD v8.toNat (0, 0, 0, ())], ()))
        else none
      else none
    else none
  else
  some (.fin (.out (c32, c96, r192, r256, ())))
def flotsamref07_with_s0 (x : Int × Int × Heap × Span × (Bool × Unit) × (Bool × Unit) × (List Int) × (List Span) × Unit) : Option (SRes (.cons cI (.cons cI (.cons cHeap (.cons cSpan (.cons (.cons .bool .nil) (.cons (.cons .bool .nil) (.cons (.sl (.int .u64)) (.cons (.sl cSpan) .nil)))))))) (.cons (.cons .bool .nil) (.cons (.cons .bool .nil) (.cons (.sl (.int .u64)) (.cons (.sl cSpan) .nil)))) .nil) := flotsamref07_with_s0r x.1 x.2.1 x.2.2.1 x.2.2.2.1 x.2.2.2.2.1 x.2.2.2.2.2.1 x.2.2.2.2.2.2.1 x.2.2.2.2.2.2.2.1
def flotsamref07_with_l0 (x : Int × Int × Heap × Span × (Bool × Unit) × (Bool × Unit) × (List Int) × (List Span) × Unit) : Option (LRes (.cons (.cons .bool .nil) (.cons (.cons .bool .nil) (.cons (.sl (.int .u64)) (.cons (.sl cSpan) .nil)))) .nil) := iterL (h := (.cons cI (.cons cI (.cons cHeap (.cons cSpan (.cons (.cons .bool .nil) (.cons (.cons .bool .nil) (.cons (.sl (.int .u64)) (.cons (.sl cSpan) .nil))))))))) (o := (.cons (.cons .bool .nil) (.cons (.cons .bool .nil) (.cons (.sl (.int .u64)) (.cons (.sl cSpan) .nil))))) (r := .nil) flotsamref07_with_s0 9223372036854775808 x
def flotsamref07_with_r (a0 : Heap) (a1 : Int) (a2 : Span) : Option (Heap × Unit) :=
  bif decide (a0.1.length * 8 ≤ 140737488355328) then
    (flotsamref07_with_l0 (a1, 0, a0, a2, (false, ()), (a0.2.2.1, ()), a0.1, [], ())).bind fun s1 => match s1 with
    | .out s1 =>
      some ((s1.2.2.1, s1.2.2.2.1, s1.2.1), ())
    | .ret s1 =>
      none
  else none
def flotsamref07_with (x : Heap × Int × Span × Unit) : Option (Heap × Unit) := flotsamref07_with_r x.1 x.2.1 x.2.2.1
noncomputable def flotsamref07_with_sm : Sum := ⟨(.cons cHeap (.cons cI (.cons cSpan .nil))), (.cons (.cons (.own (.int .u64)) (.cons (.own cSpan) (.d (.cons .bool .nil)))) .nil), flotsamref07_with⟩
noncomputable def flotsamref07_with_L0 : LoopSum := { hc := ⟨[], [1, 3, 5, 6, 7, 8], [(.key 96 [.fld 1], cSpan)], [], [0, 16, 32, 96], [192], 256⟩, h := ⟨[(1, (.d cI)), (3, (.pvar 0 [])), (5, (.pvar 16 [])), (6, (.pvar 32 [])), (7, (.pvar 96 [])), (8, (.d cI))], [(0, (.d cHeap)), (16, (.d cSpan)), (32, (.cons .nilsl (.cons .nilsl (.d (.cons .bool .nil))))), (96, (.cons (.row 192) (.cons (.row 256) (.d (.cons .bool .nil)))))], [(192, (.int .u64), true), (256, cSpan, true)], 257⟩, xid := 0, oc := ⟨[], [6, 7], [(.ptr 7 [.fld 1], cSpan)], [], [32, 96], [192], 256⟩, o := ⟨[(6, (.pvar 32 [])), (7, (.pvar 96 []))], [(32, (.cons .nilsl (.cons .nilsl (.d (.cons .bool .nil))))), (96, (.cons (.row 192) (.cons (.row 256) (.d (.cons .bool .nil)))))], [(192, (.int .u64), true), (256, cSpan, true)], 257⟩, rc := ⟨[], [], [], [], [256], [], 256⟩, r := ⟨[], [], [], 256⟩, F := flotsamref07_with_l0 }
noncomputable def flotsamref07_with_S : List (Nat × Sum) := []
noncomputable def flotsamref07_with_fl : List (Nat × Func) := []
noncomputable def flotsamref07_with_es : List AE := [⟨8, 109, 0, 0, flotsamref07_with_L0⟩]
theorem flotsamref07_with_den0 : (fun x => denStep TEv (look1 flotsamref07_with_S) (look1 flotsamref07_with_fl) (annOf flotsamref07_with_es) 8 109 Go.Proofs.Tryd.f109.ntmps 0 (cat (bodyOf Go.Proofs.Tryd.f109) [true, true, true, false, true, false, false]) flotsamref07_with_L0 x) = flotsamref07_with_s0 := by kernel_rfl
theorem flotsamref07_with_den : (fun x => denFun TEv (look1 flotsamref07_with_S) (look1 flotsamref07_with_fl) (annOf flotsamref07_with_es) 8 109 Go.Proofs.Tryd.f109 flotsamref07_with_sm.a flotsamref07_with_sm.r x) = flotsamref07_with_sm.F := by kernel_rfl
theorem flotsamref07_with_ok0 : AEok Go.Proofs.Tryd.prog TEv (look1 flotsamref07_with_S) (look1 flotsamref07_with_fl) (annOf flotsamref07_with_es) ⟨8, 109, 0, 0, flotsamref07_with_L0⟩ := aeok_of 9223372036854775808 Go.Proofs.Tryd.func109 (by kernel_rfl) flotsamref07_with_den0 (by kernel_rfl)
theorem flotsamref07_with_sem : SemOf Go.Proofs.Tryd.prog 109 flotsamref07_with_sm :=
  semMk teOk (sl := flotsamref07_with_S) (all_nil) (fl := flotsamref07_with_fl) (all_nil) (es := flotsamref07_with_es) Go.Proofs.Tryd.func109 (by kernel_rfl) rfl (rng_none (by kernel_rfl) (by kernel_rfl)) (all_cons flotsamref07_with_ok0 (all_nil)) rfl flotsamref07_with_den

/-! ### flotsam/flotsamref03.Of -/
def flotsamref03_Of_s0r (v3 : Int) (v4 : Int) (c0 : List Bool) : Option (SRes (.cons (.int .u32) (.cons cI (.cons (.arr 32 .bool) .nil))) (.cons (.int .u32) .nil) .nil) :=
  bif decide (v4 ≥ 0) then
    bif decide (0 ≤ v4) then
      bif decide (v4 < 32) then
        bif c0.getD v4.toNat false then
          some (.next (wu32 ((wu32 (2 * v3)) + 1), wi64 (v4 - 1), c0, ()))
        else
        some (.next (wu32 (2 * v3), wi64 (v4 - 1), c0, ()))
      else none
    else none
  else
  some (.fin (.out (v3, ())))
def flotsamref03_Of_s0 (x : Int × Int × (List Bool) × Unit) : Option (SRes (.cons (.int .u32) (.cons cI (.cons (.arr 32 .bool) .nil))) (.cons (.int .u32) .nil) .nil) := flotsamref03_Of_s0r x.1 x.2.1 x.2.2.1
def flotsamref03_Of_l0 (x : Int × Int × (List Bool) × Unit) : Option (LRes (.cons (.int .u32) .nil) .nil) := iterL (h := (.cons (.int .u32) (.cons cI (.cons (.arr 32 .bool) .nil)))) (o := (.cons (.int .u32) .nil)) (r := .nil) flotsamref03_Of_s0 9223372036854775808 x
def flotsamref03_Of_r (a0 : List Bool) : Option (Int × Unit) :=
  (flotsamref03_Of_l0 (0, 31, a0, ())).bind fun s1 => match s1 with
  | .out s1 =>
    some (s1.1, ())
  | .ret s1 =>
    none
def flotsamref03_Of (x : (List Bool) × Unit) : Option (Int × Unit) := flotsamref03_Of_r x.1
noncomputable def flotsamref03_Of_sm : Sum := ⟨(.cons (.arr 32 .bool) .nil), (.cons (.d (.int .u32)) .nil), flotsamref03_Of⟩
noncomputable def flotsamref03_Of_L0 : LoopSum := { hc := ⟨[], [1, 3, 4], [], [], [0], [], 64⟩, h := ⟨[(1, (.pvar 0 [])), (3, (.d (.int .u32))), (4, (.d cI))], [(0, (.d (.arr 32 .bool)))], [], 64⟩, xid := 0, oc := ⟨[], [3], [], [], [], [], 64⟩, o := ⟨[(3, (.d (.int .u32)))], [], [], 64⟩, rc := ⟨[], [], [], [], [64], [], 64⟩, r := ⟨[], [], [], 64⟩, F := flotsamref03_Of_l0 }
noncomputable def flotsamref03_Of_S : List (Nat × Sum) := []
noncomputable def flotsamref03_Of_fl : List (Nat × Func) := []
noncomputable def flotsamref03_Of_es : List AE := [⟨8, 134, 0, 0, flotsamref03_Of_L0⟩]
theorem flotsamref03_Of_den0 : (fun x => denStep TEv (look1 flotsamref03_Of_S) (look1 flotsamref03_Of_fl) (annOf flotsamref03_Of_es) 8 134 Go.Proofs.Tryd.f134.ntmps 0 (cat (bodyOf Go.Proofs.Tryd.f134) [true, true, false, true, false, false]) flotsamref03_Of_L0 x) = flotsamref03_Of_s0 := by kernel_rfl
theorem flotsamref03_Of_den : (fun x => denFun TEv (look1 flotsamref03_Of_S) (look1 flotsamref03_Of_fl) (annOf flotsamref03_Of_es) 8 134 Go.Proofs.Tryd.f134 flotsamref03_Of_sm.a flotsamref03_Of_sm.r x) = flotsamref03_Of_sm.F := by kernel_rfl
theorem flotsamref03_Of_ok0 : AEok Go.Proofs.Tryd.prog TEv (look1 flotsamref03_Of_S) (look1 flotsamref03_Of_fl) (annOf flotsamref03_Of_es) ⟨8, 134, 0, 0, flotsamref03_Of_L0⟩ := aeok_of 9223372036854775808 Go.Proofs.Tryd.func134 (by kernel_rfl) flotsamref03_Of_den0 (by kernel_rfl)
theorem flotsamref03_Of_sem : SemOf Go.Proofs.Tryd.prog 134 flotsamref03_Of_sm :=
  semMk teOk (sl := flotsamref03_Of_S) (all_nil) (fl := flotsamref03_Of_fl) (all_nil) (es := flotsamref03_Of_es) Go.Proofs.Tryd.func134 (by kernel_rfl) rfl (rng_none (by kernel_rfl) (by kernel_rfl)) (all_cons flotsamref03_Of_ok0 (all_nil)) rfl flotsamref03_Of_den

/-! ### flotsam/flotsamref03.Whole -/
def flotsamref03_Whole_s0r (v0 : Int) (v4 : Int) (c16 : List Bool) : Option (SRes (.cons cI (.cons cI (.cons (.arr 32 .bool) .nil))) (.cons (.arr 32 .bool) .nil) .nil) :=
  bif decide (v4 < 32) then
    bif decide (0 ≤ v4) then
      bif decide (v4 < 32) then
        some (.next (v0, wi64 (v4 + 1), c16.set v4.toNat (decide (v4 < v0)), ()))
      else none
    else none
  else
  some (.fin (.out (c16, ())))
def flotsamref03_Whole_s0 (x : Int × Int × (List Bool) × Unit) : Option (SRes (.cons cI (.cons cI (.cons (.arr 32 .bool) .nil))) (.cons (.arr 32 .bool) .nil) .nil) := flotsamref03_Whole_s0r x.1 x.2.1 x.2.2.1
def flotsamref03_Whole_l0 (x : Int × Int × (List Bool) × Unit) : Option (LRes (.cons (.arr 32 .bool) .nil) .nil) := iterL (h := (.cons cI (.cons cI (.cons (.arr 32 .bool) .nil)))) (o := (.cons (.arr 32 .bool) .nil)) (r := .nil) flotsamref03_Whole_s0 9223372036854775808 x
def flotsamref03_Whole_r (a0 : Int) : Option (Int × Unit) :=
  (flotsamref03_Whole_l0 (a0, 0, List.replicate 32 false, ())).bind fun s1 => match s1 with
  | .out s1 =>
    (flotsamref03_Of (s1.1, ())).bind fun y2 =>
    some (y2.1, ())
  | .ret s1 =>
    none
def flotsamref03_Whole (x : Int × Unit) : Option (Int × Unit) := flotsamref03_Whole_r x.1
noncomputable def flotsamref03_Whole_sm : Sum := ⟨(.cons cI .nil), (.cons (.d (.int .u32)) .nil), flotsamref03_Whole⟩
noncomputable def flotsamref03_Whole_L0 : LoopSum := { hc := ⟨[], [0, 3, 4], [], [], [16], [], 48⟩, h := ⟨[(0, (.d cI)), (3, (.pvar 16 [])), (4, (.d cI))], [(16, (.d (.arr 32 .bool)))], [], 48⟩, xid := 0, oc := ⟨[], [3], [], [], [16], [], 48⟩, o := ⟨[(3, (.pvar 16 []))], [(16, (.d (.arr 32 .bool)))], [], 48⟩, rc := ⟨[], [], [], [], [48], [], 48⟩, r := ⟨[], [], [], 48⟩, F := flotsamref03_Whole_l0 }
noncomputable def flotsamref03_Whole_S : List (Nat × Sum) := [(134, flotsamref03_Of_sm)]
noncomputable def flotsamref03_Whole_fl : List (Nat × Func) := []
noncomputable def flotsamref03_Whole_es : List AE := [⟨8, 110, 0, 0, flotsamref03_Whole_L0⟩]
theorem flotsamref03_Whole_den0 : (fun x => denStep TEv (look1 flotsamref03_Whole_S) (look1 flotsamref03_Whole_fl) (annOf flotsamref03_Whole_es) 8 110 Go.Proofs.Tryd.f110.ntmps 0 (cat (bodyOf Go.Proofs.Tryd.f110) [true, true, false, true, false, false]) flotsamref03_Whole_L0 x) = flotsamref03_Whole_s0 := by kernel_rfl
theorem flotsamref03_Whole_den : (fun x => denFun TEv (look1 flotsamref03_Whole_S) (look1 flotsamref03_Whole_fl) (annOf flotsamref03_Whole_es) 8 110 Go.Proofs.Tryd.f110 flotsamref03_Whole_sm.a flotsamref03_Whole_sm.r x) = flotsamref03_Whole_sm.F := by kernel_rfl
theorem flotsamref03_Whole_ok0 : AEok Go.Proofs.Tryd.prog TEv (look1 flotsamref03_Whole_S) (look1 flotsamref03_Whole_fl) (annOf flotsamref03_Whole_es) ⟨8, 110, 0, 0, flotsamref03_Whole_L0⟩ := aeok_of 9223372036854775808 Go.Proofs.Tryd.func110 (by kernel_rfl) flotsamref03_Whole_den0 (by kernel_rfl)
theorem flotsamref03_Whole_sem : SemOf Go.Proofs.Tryd.prog 110 flotsamref03_Whole_sm :=
  semMk teOk (sl := flotsamref03_Whole_S) (all_cons flotsamref03_Of_sem all_nil) (fl := flotsamref03_Whole_fl) (all_nil) (es := flotsamref03_Whole_es) Go.Proofs.Tryd.func110 (by kernel_rfl) rfl (rng_none (by kernel_rfl) (by kernel_rfl)) (all_cons flotsamref03_Whole_ok0 (all_nil)) rfl flotsamref03_Whole_den

/-! ### flotsam/flotsamref07.Open -/
def flotsamref07_Open_r (a0 : Heap) (a1 : Int) (a2 : Int) : Option (Heap × Bool × Unit) :=
  bif decide (a1 < 0) then
    some (a0, false, ())
  else
  bif decide (a1 ≥ (a0.2.1.length : Int)) then
    some (a0, false, ())
  else
  bif decide (a2 < 0) then
    some (a0, false, ())
  else
  bif decide (a2 > 3) then
    some (a0, false, ())
  else
  bif decide (0 ≤ a1) then
    bif decide (a1 < (a0.2.1.length : Int)) then
      bif (a0.2.1.getD a1.toNat (0, 0, 0, ())).1 != 0 then
        some (a0, false, ())
      else
      (flotsamref04_Blocks (a2, ())).bind fun y1 =>
      (flotsamref03_Whole (y1.1, ())).bind fun y2 =>
      (flotsamref07_with (a0, a1, (1, a2, y2.1, ()), ())).bind fun y3 =>
      some ((y3.1.1, y3.1.2.1, y3.1.2.2), true, ())
    else none
  else none
def flotsamref07_Open (x : Heap × Val) : Option (Heap × Bool × Unit) := flotsamref07_Open_r x.1 x.2.1 x.2.2.1
noncomputable def flotsamref07_Open_sm : Sum := ⟨(.cons cHeap cVal), (.cons (.d cHeap) (.cons (.d .bool) .nil)), flotsamref07_Open⟩
noncomputable def flotsamref07_Open_S : List (Nat × Sum) := [(74, flotsamref04_Blocks_sm), (109, flotsamref07_with_sm), (110, flotsamref03_Whole_sm)]
noncomputable def flotsamref07_Open_fl : List (Nat × Func) := []
noncomputable def flotsamref07_Open_es : List AE := []
theorem flotsamref07_Open_den : (fun x => denFun TEv (look1 flotsamref07_Open_S) (look1 flotsamref07_Open_fl) (annOf flotsamref07_Open_es) 8 88 Go.Proofs.Tryd.f88 flotsamref07_Open_sm.a flotsamref07_Open_sm.r x) = flotsamref07_Open_sm.F := by kernel_rfl
theorem flotsamref07_Open_sem : SemOf Go.Proofs.Tryd.prog 88 flotsamref07_Open_sm :=
  semMk teOk (sl := flotsamref07_Open_S) (all_cons flotsamref04_Blocks_sem (all_cons flotsamref07_with_sem (all_cons flotsamref03_Whole_sem all_nil))) (fl := flotsamref07_Open_fl) (all_nil) (es := flotsamref07_Open_es) Go.Proofs.Tryd.func88 (by kernel_rfl) rfl (rng_none (by kernel_rfl) (by kernel_rfl)) (all_nil) rfl flotsamref07_Open_den

/-! ### flotsam/flotsamref04.Words -/
def flotsamref04_Words_s0r (v0 : Int) (v3 : Int) (v4 : Int) : Option (SRes (.cons cI cVal) (.cons cI .nil) .nil) :=
  bif decide (v4 < v0) then
    some (.next (v0, wi64 (2 * v3), wi64 (v4 + 1), ()))
  else
  some (.fin (.out (v3, ())))
def flotsamref04_Words_s0 (x : Int × Val) : Option (SRes (.cons cI cVal) (.cons cI .nil) .nil) := flotsamref04_Words_s0r x.1 x.2.1 x.2.2.1
def flotsamref04_Words_l0 (x : Int × Val) : Option (LRes (.cons cI .nil) .nil) := iterL (h := (.cons cI cVal)) (o := (.cons cI .nil)) (r := .nil) flotsamref04_Words_s0 9223372036854775808 x
def flotsamref04_Words_r (a0 : Int) : Option (Int × Unit) :=
  bif decide (a0 < 0) then
    some (0, ())
  else
  bif decide (a0 > 3) then
    some (0, ())
  else
  (flotsamref04_Words_l0 (a0, 2, 0, ())).bind fun s1 => match s1 with
  | .out s1 =>
    some (s1.1, ())
  | .ret s1 =>
    none
def flotsamref04_Words (x : Int × Unit) : Option (Int × Unit) := flotsamref04_Words_r x.1
noncomputable def flotsamref04_Words_sm : Sum := ⟨(.cons cI .nil), (.cons (.d cI) .nil), flotsamref04_Words⟩
noncomputable def flotsamref04_Words_L0 : LoopSum := { hc := ⟨[], [0, 3, 4], [], [], [], [], 144⟩, h := ⟨[(0, (.d cI)), (3, (.d cI)), (4, (.d cI))], [], [], 144⟩, xid := 0, oc := ⟨[], [3], [], [], [], [], 144⟩, o := ⟨[(3, (.d cI))], [], [], 144⟩, rc := ⟨[], [], [], [], [144], [], 144⟩, r := ⟨[], [], [], 144⟩, F := flotsamref04_Words_l0 }
noncomputable def flotsamref04_Words_S : List (Nat × Sum) := []
noncomputable def flotsamref04_Words_fl : List (Nat × Func) := []
noncomputable def flotsamref04_Words_es : List AE := [⟨8, 94, 0, 0, flotsamref04_Words_L0⟩]
theorem flotsamref04_Words_den0 : (fun x => denStep TEv (look1 flotsamref04_Words_S) (look1 flotsamref04_Words_fl) (annOf flotsamref04_Words_es) 8 94 Go.Proofs.Tryd.f94.ntmps 0 (cat (bodyOf Go.Proofs.Tryd.f94) [true, true, true, false, true, false, false]) flotsamref04_Words_L0 x) = flotsamref04_Words_s0 := by kernel_rfl
theorem flotsamref04_Words_den : (fun x => denFun TEv (look1 flotsamref04_Words_S) (look1 flotsamref04_Words_fl) (annOf flotsamref04_Words_es) 8 94 Go.Proofs.Tryd.f94 flotsamref04_Words_sm.a flotsamref04_Words_sm.r x) = flotsamref04_Words_sm.F := by kernel_rfl
theorem flotsamref04_Words_ok0 : AEok Go.Proofs.Tryd.prog TEv (look1 flotsamref04_Words_S) (look1 flotsamref04_Words_fl) (annOf flotsamref04_Words_es) ⟨8, 94, 0, 0, flotsamref04_Words_L0⟩ := aeok_of 9223372036854775808 Go.Proofs.Tryd.func94 (by kernel_rfl) flotsamref04_Words_den0 (by kernel_rfl)
theorem flotsamref04_Words_sem : SemOf Go.Proofs.Tryd.prog 94 flotsamref04_Words_sm :=
  semMk teOk (sl := flotsamref04_Words_S) (all_nil) (fl := flotsamref04_Words_fl) (all_nil) (es := flotsamref04_Words_es) Go.Proofs.Tryd.func94 (by kernel_rfl) rfl (rng_none (by kernel_rfl) (by kernel_rfl)) (all_cons flotsamref04_Words_ok0 (all_nil)) rfl flotsamref04_Words_den

/-! ### flotsam/flotsamref02.Put -/
def flotsamref02_Put_r (a0 : Hdr) : Option (Int × Unit) :=
  bif !a0.1 then
    some (0, ())
  else
  bif a0.2.1 then
    some (wu64 (wi64 ((wi64 ((wi64 (128 + (wi64 (16 * a0.2.2.1)))) + a0.2.2.2.1)) + 64)), ())
  else
  some (wu64 (wi64 ((wi64 (128 + (wi64 (16 * a0.2.2.1)))) + a0.2.2.2.1)), ())
def flotsamref02_Put (x : Hdr × Unit) : Option (Int × Unit) := flotsamref02_Put_r x.1
noncomputable def flotsamref02_Put_sm : Sum := ⟨(.cons cHdr .nil), (.cons (.d (.int .u64)) .nil), flotsamref02_Put⟩
noncomputable def flotsamref02_Put_S : List (Nat × Sum) := []
noncomputable def flotsamref02_Put_fl : List (Nat × Func) := []
noncomputable def flotsamref02_Put_es : List AE := []
theorem flotsamref02_Put_den : (fun x => denFun TEv (look1 flotsamref02_Put_S) (look1 flotsamref02_Put_fl) (annOf flotsamref02_Put_es) 8 96 Go.Proofs.Tryd.f96 flotsamref02_Put_sm.a flotsamref02_Put_sm.r x) = flotsamref02_Put_sm.F := by kernel_rfl
theorem flotsamref02_Put_sem : SemOf Go.Proofs.Tryd.prog 96 flotsamref02_Put_sm :=
  semMk teOk (sl := flotsamref02_Put_S) (all_nil) (fl := flotsamref02_Put_fl) (all_nil) (es := flotsamref02_Put_es) Go.Proofs.Tryd.func96 (by kernel_rfl) rfl (rng_none (by kernel_rfl) (by kernel_rfl)) (all_nil) rfl flotsamref02_Put_den

/-! ### flotsam/flotsamref03.turned -/
def flotsamref03_turned_s0r (v0 : Int) (v1 : Int) (v2 : Bool) (v8 : Int) (c16 : List Bool) : Option (SRes (.cons (.int .u32) (.cons cI (.cons .bool (.cons cI (.cons (.arr 32 .bool) .nil))))) (.cons cI (.cons .bool (.cons (.arr 32 .bool) .nil))) .nil) :=
  bif decide (v8 < 32) then
    (flotsamref03_Has (v0, v8, ())).bind fun y1 =>
    bif decide (0 ≤ v8) then
      bif decide (v8 < 32) then
        some (.next (v0, v1, v2, wi64 (v8 + 1), c16.set v8.toNat y1.1, ()))
      else none
    else none
  else
  some (.fin (.out (v1, v2, c16, ())))
def flotsamref03_turned_s0 (x : Int × Int × Bool × Int × (List Bool) × Unit) : Option (SRes (.cons (.int .u32) (.cons cI (.cons .bool (.cons cI (.cons (.arr 32 .bool) .nil))))) (.cons cI (.cons .bool (.cons (.arr 32 .bool) .nil))) .nil) := flotsamref03_turned_s0r x.1 x.2.1 x.2.2.1 x.2.2.2.1 x.2.2.2.2.1
def flotsamref03_turned_l0 (x : Int × Int × Bool × Int × (List Bool) × Unit) : Option (LRes (.cons cI (.cons .bool (.cons (.arr 32 .bool) .nil))) .nil) := iterL (h := (.cons (.int .u32) (.cons cI (.cons .bool (.cons cI (.cons (.arr 32 .bool) .nil)))))) (o := (.cons cI (.cons .bool (.cons (.arr 32 .bool) .nil)))) (r := .nil) flotsamref03_turned_s0 9223372036854775808 x
def flotsamref03_turned_r (a0 : Int) (a1 : Int) (a2 : Bool) : Option (Int × Unit) :=
  (flotsamref03_turned_l0 (a0, a1, a2, 0, List.replicate 32 false, ())).bind fun s2 => match s2 with
  | .out s2 =>
    bif decide (s2.1 ≥ 0) then
      bif decide (s2.1 < 32) then
        bif decide (0 ≤ s2.1) then
          bif decide (s2.1 < 32) then
            (flotsamref03_Of (s2.2.2.1.set s2.1.toNat s2.2.1, ())).bind fun y3 =>
            some (y3.1, ())
          else none
        else none
      else
      (flotsamref03_Of (s2.2.2.1, ())).bind fun y4 =>
      some (y4.1, ())
    else
    (flotsamref03_Of (s2.2.2.1, ())).bind fun y5 =>
    some (y5.1, ())
  | .ret s2 =>
    none
def flotsamref03_turned (x : Int × Int × Bool × Unit) : Option (Int × Unit) := flotsamref03_turned_r x.1 x.2.1 x.2.2.1
noncomputable def flotsamref03_turned_sm : Sum := ⟨(.cons (.int .u32) (.cons cI (.cons .bool .nil))), (.cons (.d (.int .u32)) .nil), flotsamref03_turned⟩
noncomputable def flotsamref03_turned_L0 : LoopSum := { hc := ⟨[], [0, 1, 2, 7, 8], [], [], [16], [], 48⟩, h := ⟨[(0, (.d (.int .u32))), (1, (.d cI)), (2, (.d .bool)), (7, (.pvar 16 [])), (8, (.d cI))], [(16, (.d (.arr 32 .bool)))], [], 48⟩, xid := 0, oc := ⟨[], [1, 2, 7], [], [], [16], [], 48⟩, o := ⟨[(1, (.d cI)), (2, (.d .bool)), (7, (.pvar 16 []))], [(16, (.d (.arr 32 .bool)))], [], 48⟩, rc := ⟨[], [], [], [], [48], [], 48⟩, r := ⟨[], [], [], 48⟩, F := flotsamref03_turned_l0 }
noncomputable def flotsamref03_turned_S : List (Nat × Sum) := [(75, flotsamref03_Has_sm), (134, flotsamref03_Of_sm)]
noncomputable def flotsamref03_turned_fl : List (Nat × Func) := []
noncomputable def flotsamref03_turned_es : List AE := [⟨8, 144, 0, 0, flotsamref03_turned_L0⟩]
theorem flotsamref03_turned_den0 : (fun x => denStep TEv (look1 flotsamref03_turned_S) (look1 flotsamref03_turned_fl) (annOf flotsamref03_turned_es) 8 144 Go.Proofs.Tryd.f144.ntmps 0 (cat (bodyOf Go.Proofs.Tryd.f144) [true, true, false, true, false, false]) flotsamref03_turned_L0 x) = flotsamref03_turned_s0 := by kernel_rfl
theorem flotsamref03_turned_den : (fun x => denFun TEv (look1 flotsamref03_turned_S) (look1 flotsamref03_turned_fl) (annOf flotsamref03_turned_es) 8 144 Go.Proofs.Tryd.f144 flotsamref03_turned_sm.a flotsamref03_turned_sm.r x) = flotsamref03_turned_sm.F := by kernel_rfl
theorem flotsamref03_turned_ok0 : AEok Go.Proofs.Tryd.prog TEv (look1 flotsamref03_turned_S) (look1 flotsamref03_turned_fl) (annOf flotsamref03_turned_es) ⟨8, 144, 0, 0, flotsamref03_turned_L0⟩ := aeok_of 9223372036854775808 Go.Proofs.Tryd.func144 (by kernel_rfl) flotsamref03_turned_den0 (by kernel_rfl)
theorem flotsamref03_turned_sem : SemOf Go.Proofs.Tryd.prog 144 flotsamref03_turned_sm :=
  semMk teOk (sl := flotsamref03_turned_S) (all_cons flotsamref03_Has_sem (all_cons flotsamref03_Of_sem all_nil)) (fl := flotsamref03_turned_fl) (all_nil) (es := flotsamref03_turned_es) Go.Proofs.Tryd.func144 (by kernel_rfl) rfl (rng_none (by kernel_rfl) (by kernel_rfl)) (all_cons flotsamref03_turned_ok0 (all_nil)) rfl flotsamref03_turned_den

/-! ### flotsam/flotsamref03.Without -/
def flotsamref03_Without_r (a0 : Int) (a1 : Int) : Option (Int × Unit) :=
  (flotsamref03_turned (a0, a1, false, ())).bind fun y1 =>
  some (y1.1, ())
def flotsamref03_Without (x : Int × Int × Unit) : Option (Int × Unit) := flotsamref03_Without_r x.1 x.2.1
noncomputable def flotsamref03_Without_sm : Sum := ⟨(.cons (.int .u32) (.cons cI .nil)), (.cons (.d (.int .u32)) .nil), flotsamref03_Without⟩
noncomputable def flotsamref03_Without_S : List (Nat × Sum) := [(144, flotsamref03_turned_sm)]
noncomputable def flotsamref03_Without_fl : List (Nat × Func) := []
noncomputable def flotsamref03_Without_es : List AE := []
theorem flotsamref03_Without_den : (fun x => denFun TEv (look1 flotsamref03_Without_S) (look1 flotsamref03_Without_fl) (annOf flotsamref03_Without_es) 8 135 Go.Proofs.Tryd.f135 flotsamref03_Without_sm.a flotsamref03_Without_sm.r x) = flotsamref03_Without_sm.F := by kernel_rfl
theorem flotsamref03_Without_sem : SemOf Go.Proofs.Tryd.prog 135 flotsamref03_Without_sm :=
  semMk teOk (sl := flotsamref03_Without_S) (all_cons flotsamref03_turned_sem all_nil) (fl := flotsamref03_Without_fl) (all_nil) (es := flotsamref03_Without_es) Go.Proofs.Tryd.func135 (by kernel_rfl) rfl (rng_none (by kernel_rfl) (by kernel_rfl)) (all_nil) rfl flotsamref03_Without_den

/-! ### flotsam/flotsamref06.Take -/
def flotsamref06_Take_s0r (v5 : Int) (c0 : Span) (c16 : Span) : Option (SRes (.cons cI (.cons cSpan (.cons cSpan .nil))) (.cons cSpan (.cons cSpan .nil)) (.cons cI (.cons .bool (.cons cSpan .nil)))) :=
  bif decide (v5 < 16) then
    bif c0.1 == 1 then
      (flotsamref03_Has (c0.2.2.1, v5, ())).bind fun y1 =>
      bif y1.1 then
        (flotsamref03_Without (c0.2.2.1, v5, ())).bind fun y2 =>
        some (.fin (.ret (v5, true, (c0.1, c0.2.1, y2.1, c0.2.2.2), ())))
      else
      some (.next (wi64 (v5 + 1), c0, c16, ()))
    else
    some (.fin (.out (c0, c16, ())))
  else
  some (.fin (.out (c0, c16, ())))
def flotsamref06_Take_s0 (x : Int × Span × Span × Unit) : Option (SRes (.cons cI (.cons cSpan (.cons cSpan .nil))) (.cons cSpan (.cons cSpan .nil)) (.cons cI (.cons .bool (.cons cSpan .nil)))) := flotsamref06_Take_s0r x.1 x.2.1 x.2.2.1
def flotsamref06_Take_l0 (x : Int × Span × Span × Unit) : Option (LRes (.cons cSpan (.cons cSpan .nil)) (.cons cI (.cons .bool (.cons cSpan .nil)))) := iterL (h := (.cons cI (.cons cSpan (.cons cSpan .nil)))) (o := (.cons cSpan (.cons cSpan .nil))) (r := (.cons cI (.cons .bool (.cons cSpan .nil)))) flotsamref06_Take_s0 9223372036854775808 x
def flotsamref06_Take_r (a0 : Span) : Option (Span × Int × Bool × Unit) :=
  (flotsamref06_Take_l0 (0, a0, (0, 0, 0, ()), ())).bind fun s3 => match s3 with
  | .out s3 =>
    some (s3.1, 0, false, ())
  | .ret s3 =>
    some (s3.2.2.1, s3.1, s3.2.1, ())
def flotsamref06_Take (x : Span × Unit) : Option (Span × Int × Bool × Unit) := flotsamref06_Take_r x.1
noncomputable def flotsamref06_Take_sm : Sum := ⟨(.cons cSpan .nil), (.cons (.d cSpan) (.cons (.d cI) (.cons (.d .bool) .nil))), flotsamref06_Take⟩
noncomputable def flotsamref06_Take_L0 : LoopSum := { hc := ⟨[], [1, 2, 5], [], [], [0, 16], [], 80⟩, h := ⟨[(1, (.pvar 0 [])), (2, (.pvar 16 [])), (5, (.d cI))], [(0, (.d cSpan)), (16, (.d cSpan))], [], 80⟩, xid := 0, oc := ⟨[], [1, 2], [], [], [0, 16], [], 80⟩, o := ⟨[(1, (.pvar 0 [])), (2, (.pvar 16 []))], [(0, (.d cSpan)), (16, (.d cSpan))], [], 80⟩, rc := ⟨[], [2, 3, 4], [], [], [16], [], 80⟩, r := ⟨[(2, (.pvar 16 [])), (3, (.d cI)), (4, (.d .bool))], [(16, (.d cSpan))], [], 80⟩, F := flotsamref06_Take_l0 }
noncomputable def flotsamref06_Take_S : List (Nat × Sum) := [(75, flotsamref03_Has_sm), (135, flotsamref03_Without_sm)]
noncomputable def flotsamref06_Take_fl : List (Nat × Func) := []
noncomputable def flotsamref06_Take_es : List AE := [⟨8, 111, 0, 0, flotsamref06_Take_L0⟩]
theorem flotsamref06_Take_den0 : (fun x => denStep TEv (look1 flotsamref06_Take_S) (look1 flotsamref06_Take_fl) (annOf flotsamref06_Take_es) 8 111 Go.Proofs.Tryd.f111.ntmps 0 (cat (bodyOf Go.Proofs.Tryd.f111) [true, false, true, false, false]) flotsamref06_Take_L0 x) = flotsamref06_Take_s0 := by kernel_rfl
theorem flotsamref06_Take_den : (fun x => denFun TEv (look1 flotsamref06_Take_S) (look1 flotsamref06_Take_fl) (annOf flotsamref06_Take_es) 8 111 Go.Proofs.Tryd.f111 flotsamref06_Take_sm.a flotsamref06_Take_sm.r x) = flotsamref06_Take_sm.F := by kernel_rfl
theorem flotsamref06_Take_ok0 : AEok Go.Proofs.Tryd.prog TEv (look1 flotsamref06_Take_S) (look1 flotsamref06_Take_fl) (annOf flotsamref06_Take_es) ⟨8, 111, 0, 0, flotsamref06_Take_L0⟩ := aeok_of 9223372036854775808 Go.Proofs.Tryd.func111 (by kernel_rfl) flotsamref06_Take_den0 (by kernel_rfl)
theorem flotsamref06_Take_sem : SemOf Go.Proofs.Tryd.prog 111 flotsamref06_Take_sm :=
  semMk teOk (sl := flotsamref06_Take_S) (all_cons flotsamref03_Has_sem (all_cons flotsamref03_Without_sem all_nil)) (fl := flotsamref06_Take_fl) (all_nil) (es := flotsamref06_Take_es) Go.Proofs.Tryd.func111 (by kernel_rfl) rfl (rng_none (by kernel_rfl) (by kernel_rfl)) (all_cons flotsamref06_Take_ok0 (all_nil)) rfl flotsamref06_Take_den

/-! ### flotsam/flotsamref05.Address -/
def flotsamref05_Address_r (a0 : Int) (a1 : Int) (a2 : Int) : Option (Int × Bool × Unit) :=
  bif decide (a0 < 0) then
    some (0, false, ())
  else
  bif decide (a0 > 15) then
    some (0, false, ())
  else
  bif decide (a2 < 0) then
    some (0, false, ())
  else
  (flotsamref04_Blocks (a1, ())).bind fun y1 =>
  bif decide (a2 ≥ y1.1) then
    some (0, false, ())
  else
  (flotsamref04_Words (a1, ())).bind fun y2 =>
  some (wi64 ((wi64 (32 * a0)) + (wi64 (a2 * y2.1))), true, ())
def flotsamref05_Address (x : Int × Val) : Option (Int × Bool × Unit) := flotsamref05_Address_r x.1 x.2.1 x.2.2.1
noncomputable def flotsamref05_Address_sm : Sum := ⟨(.cons cI cVal), (.cons (.d cI) (.cons (.d .bool) .nil)), flotsamref05_Address⟩
noncomputable def flotsamref05_Address_S : List (Nat × Sum) := [(74, flotsamref04_Blocks_sm), (94, flotsamref04_Words_sm)]
noncomputable def flotsamref05_Address_fl : List (Nat × Func) := []
noncomputable def flotsamref05_Address_es : List AE := []
theorem flotsamref05_Address_den : (fun x => denFun TEv (look1 flotsamref05_Address_S) (look1 flotsamref05_Address_fl) (annOf flotsamref05_Address_es) 8 112 Go.Proofs.Tryd.f112 flotsamref05_Address_sm.a flotsamref05_Address_sm.r x) = flotsamref05_Address_sm.F := by kernel_rfl
theorem flotsamref05_Address_sem : SemOf Go.Proofs.Tryd.prog 112 flotsamref05_Address_sm :=
  semMk teOk (sl := flotsamref05_Address_S) (all_cons flotsamref04_Blocks_sem (all_cons flotsamref04_Words_sem all_nil)) (fl := flotsamref05_Address_fl) (all_nil) (es := flotsamref05_Address_es) Go.Proofs.Tryd.func112 (by kernel_rfl) rfl (rng_none (by kernel_rfl) (by kernel_rfl)) (all_nil) rfl flotsamref05_Address_den

/-! ### flotsam/flotsamref07.Lay -/
def flotsamref07_Lay_s0r (v2 : Int) (v13 : Int) (v15 : Int) (c0 : Heap) (c16 : Bool × Unit) (c608 : Span) (c768 : Bool × Unit) (r752 : List Int) (r753 : List Span) : Option (SRes (.cons cI (.cons cI (.cons cI (.cons cHeap (.cons (.cons .bool .nil) (.cons cSpan (.cons (.cons .bool .nil) (.cons (.sl (.int .u64)) (.cons (.sl cSpan) .nil))))))))) (.cons cI (.cons cI (.cons cHeap (.cons (.cons .bool .nil) (.cons cSpan (.cons (.cons .bool .nil) (.cons (.sl (.int .u64)) (.cons (.sl cSpan) .nil)))))))) .nil) :=
  (flotsamref04_Words (c608.2.1, ())).bind fun y5 =>
  bif decide (v15 < y5.1) then
    bif decide (0 ≤ (wi64 (v13 + v15))) then
      bif decide ((wi64 (v13 + v15)) < (r752.length : Int)) then
        some (.next (v2, v13, wi64 (v15 + 1), c0, c16, c608, c768, r752.set (wi64 (v13 + v15)).toNat 0, r753, ()))
      else none
    else none
  else
  some (.fin (.out (v2, v13, c0, c16, c608, c768, r752, r753, ())))
def flotsamref07_Lay_s0 (x : Int × Int × Int × Heap × (Bool × Unit) × Span × (Bool × Unit) × (List Int) × (List Span) × Unit) : Option (SRes (.cons cI (.cons cI (.cons cI (.cons cHeap (.cons (.cons .bool .nil) (.cons cSpan (.cons (.cons .bool .nil) (.cons (.sl (.int .u64)) (.cons (.sl cSpan) .nil))))))))) (.cons cI (.cons cI (.cons cHeap (.cons (.cons .bool .nil) (.cons cSpan (.cons (.cons .bool .nil) (.cons (.sl (.int .u64)) (.cons (.sl cSpan) .nil)))))))) .nil) := flotsamref07_Lay_s0r x.1 x.2.1 x.2.2.1 x.2.2.2.1 x.2.2.2.2.1 x.2.2.2.2.2.1 x.2.2.2.2.2.2.1 x.2.2.2.2.2.2.2.1 x.2.2.2.2.2.2.2.2.1
def flotsamref07_Lay_l0 (x : Int × Int × Int × Heap × (Bool × Unit) × Span × (Bool × Unit) × (List Int) × (List Span) × Unit) : Option (LRes (.cons cI (.cons cI (.cons cHeap (.cons (.cons .bool .nil) (.cons cSpan (.cons (.cons .bool .nil) (.cons (.sl (.int .u64)) (.cons (.sl cSpan) .nil)))))))) .nil) := iterL (h := (.cons cI (.cons cI (.cons cI (.cons cHeap (.cons (.cons .bool .nil) (.cons cSpan (.cons (.cons .bool .nil) (.cons (.sl (.int .u64)) (.cons (.sl cSpan) .nil)))))))))) (o := (.cons cI (.cons cI (.cons cHeap (.cons (.cons .bool .nil) (.cons cSpan (.cons (.cons .bool .nil) (.cons (.sl (.int .u64)) (.cons (.sl cSpan) .nil))))))))) (r := .nil) flotsamref07_Lay_s0 9223372036854775808 x
def flotsamref07_Lay_r (a0 : Heap) (a1 : Int) (a2 : Int) : Option (Heap × Int × Bool × Unit) :=
  bif decide (a1 < 0) then
    some (a0, 0, false, ())
  else
  bif decide (a1 ≥ (a0.2.1.length : Int)) then
    some (a0, 0, false, ())
  else
  bif decide (a2 < 0) then
    some (a0, 0, false, ())
  else
  bif decide (0 ≤ a1) then
    bif decide (a1 < (a0.2.1.length : Int)) then
      (flotsamref04_Words ((a0.2.1.getD a1.toNat (0, 0, 0, ())).2.1, ())).bind fun y1 =>
      bif decide (a2 ≥ y1.1) then
        some (a0, 0, false, ())
      else
      bif decide (0 ≤ a1) then
        bif decide (a1 < (a0.2.1.length : Int)) then
          (flotsamref06_Take (a0.2.1.getD a1.toNat (0, 0, 0, ()), ())).bind fun y2 =>
          bif !y2.2.2.1 then
            some (a0, 0, false, ())
          else
          (flotsamref07_with (a0, a1, y2.1, ())).bind fun y3 =>
          (flotsamref05_Address (a1, y2.1.2.1, y2.2.1, ())).bind fun y4 =>
          (flotsamref07_Lay_l0 (a2, y4.1, 0, a0, (false, ()), y2.1, y3.1.2.2, y3.1.1, y3.1.2.1, ())).bind fun s6 => match s6 with
          | .out s6 =>
            (flotsamref02_Put ((true, s6.2.2.1.2.2.1, s6.2.2.2.2.1.2.1, s6.1, ()), ())).bind fun y7 =>
            bif decide (0 ≤ s6.2.1) then
              bif decide (s6.2.1 < (s6.2.2.2.2.2.2.1.length : Int)) then
                some ((s6.2.2.2.2.2.2.1.set s6.2.1.toNat y7.1, s6.2.2.2.2.2.2.2.1, s6.2.2.2.2.2.1), s6.2.1, true, ())
              else none
            else none
          | .ret s6 =>
            none
        else none
      else none
    else none
  else none
def flotsamref07_Lay (x : Heap × Val) : Option (Heap × Int × Bool × Unit) := flotsamref07_Lay_r x.1 x.2.1 x.2.2.1
noncomputable def flotsamref07_Lay_sm : Sum := ⟨(.cons cHeap cVal), (.cons (.d cHeap) (.cons (.d cI) (.cons (.d .bool) .nil))), flotsamref07_Lay⟩
noncomputable def flotsamref07_Lay_L0 : LoopSum := { hc := ⟨[], [2, 3, 6, 9, 12, 13, 15], [], [], [0, 16, 608, 768], [752, 753], 976⟩, h := ⟨[(2, (.d cI)), (3, (.pvar 0 [])), (6, (.pvar 16 [])), (9, (.pvar 608 [])), (12, (.pvar 768 [])), (13, (.d cI)), (15, (.d cI))], [(0, (.d cHeap)), (16, (.cons .nilsl (.cons .nilsl (.d (.cons .bool .nil))))), (608, (.d cSpan)), (768, (.cons (.row 752) (.cons (.row 753) (.d (.cons .bool .nil)))))], [(752, (.int .u64), true), (753, cSpan, true)], 976⟩, xid := 0, oc := ⟨[], [2, 3, 6, 9, 12, 13], [], [], [0, 16, 608, 768], [752, 753], 976⟩, o := ⟨[(2, (.d cI)), (3, (.pvar 0 [])), (6, (.pvar 16 [])), (9, (.pvar 608 [])), (12, (.pvar 768 [])), (13, (.d cI))], [(0, (.d cHeap)), (16, (.cons .nilsl (.cons .nilsl (.d (.cons .bool .nil))))), (608, (.d cSpan)), (768, (.cons (.row 752) (.cons (.row 753) (.d (.cons .bool .nil)))))], [(752, (.int .u64), true), (753, cSpan, true)], 976⟩, rc := ⟨[], [], [], [], [976], [], 976⟩, r := ⟨[], [], [], 976⟩, F := flotsamref07_Lay_l0 }
noncomputable def flotsamref07_Lay_S : List (Nat × Sum) := [(94, flotsamref04_Words_sm), (96, flotsamref02_Put_sm), (109, flotsamref07_with_sm), (111, flotsamref06_Take_sm), (112, flotsamref05_Address_sm)]
noncomputable def flotsamref07_Lay_fl : List (Nat × Func) := []
noncomputable def flotsamref07_Lay_es : List AE := [⟨8, 89, 0, 0, flotsamref07_Lay_L0⟩]
theorem flotsamref07_Lay_den0 : (fun x => denStep TEv (look1 flotsamref07_Lay_S) (look1 flotsamref07_Lay_fl) (annOf flotsamref07_Lay_es) 8 89 Go.Proofs.Tryd.f89.ntmps 0 (cat (bodyOf Go.Proofs.Tryd.f89) [true, true, true, true, true, true, false, true, false, false]) flotsamref07_Lay_L0 x) = flotsamref07_Lay_s0 := by kernel_rfl
theorem flotsamref07_Lay_den : (fun x => denFun TEv (look1 flotsamref07_Lay_S) (look1 flotsamref07_Lay_fl) (annOf flotsamref07_Lay_es) 8 89 Go.Proofs.Tryd.f89 flotsamref07_Lay_sm.a flotsamref07_Lay_sm.r x) = flotsamref07_Lay_sm.F := by kernel_rfl
theorem flotsamref07_Lay_ok0 : AEok Go.Proofs.Tryd.prog TEv (look1 flotsamref07_Lay_S) (look1 flotsamref07_Lay_fl) (annOf flotsamref07_Lay_es) ⟨8, 89, 0, 0, flotsamref07_Lay_L0⟩ := aeok_of 9223372036854775808 Go.Proofs.Tryd.func89 (by kernel_rfl) flotsamref07_Lay_den0 (by kernel_rfl)
theorem flotsamref07_Lay_sem : SemOf Go.Proofs.Tryd.prog 89 flotsamref07_Lay_sm :=
  semMk teOk (sl := flotsamref07_Lay_S) (all_cons flotsamref04_Words_sem (all_cons flotsamref02_Put_sem (all_cons flotsamref07_with_sem (all_cons flotsamref06_Take_sem (all_cons flotsamref05_Address_sem all_nil))))) (fl := flotsamref07_Lay_fl) (all_nil) (es := flotsamref07_Lay_es) Go.Proofs.Tryd.func89 (by kernel_rfl) rfl (rng_none (by kernel_rfl) (by kernel_rfl)) (all_cons flotsamref07_Lay_ok0 (all_nil)) rfl flotsamref07_Lay_den
end Go.Proofs.YtdiogegolnoeoaaDoor.Den
