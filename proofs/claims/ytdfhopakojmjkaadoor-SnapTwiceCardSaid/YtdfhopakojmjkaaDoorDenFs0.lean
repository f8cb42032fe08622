/- What functions come to. Printed by a program of this session. -/
import Derived.Test.YtdfhopakojmjkaaDoorDenFsw
namespace Go.Proofs.YtdfhopakojmjkaaDoor.Den
open Go
set_option maxRecDepth 100000
set_option linter.unusedVariables false
/-! ### flotsam/snap.list -/
def snap_list_r (a0 : List Val) : Option ((List Val) × Unit) :=
  some (a0, ())
def snap_list (x : (List Val) × Unit) : Option ((List Val) × Unit) := snap_list_r x.1
noncomputable def snap_list_sm : Sum := ⟨(.cons (.sl cVal) .nil), (.cons (.d (.sl cVal)) .nil), snap_list⟩
noncomputable def snap_list_S : List (Nat × Sum) := []
noncomputable def snap_list_fl : List (Nat × Func) := []
noncomputable def snap_list_es : List AE := []
theorem snap_list_den : (fun x => denFun TEv (look1 snap_list_S) (look1 snap_list_fl) (annOf snap_list_es) 8 161 Go.Proofs.Tryd.f161 snap_list_sm.a snap_list_sm.r x) = snap_list_sm.F := by kernel_rfl
theorem snap_list_sem : SemOf Go.Proofs.Tryd.prog 161 snap_list_sm :=
  semMk teOk (sl := snap_list_S) (all_nil) (fl := snap_list_fl) (all_nil) (es := snap_list_es) Go.Proofs.Tryd.func161 (by kernel_rfl) rfl (all_nil) rfl snap_list_den

/-! ### flotsam/snap.Registers -/
def snap_Registers_r (a0 : (List Val) × Int × (Int × Int × Val) × Int × Val × (List Int) × Unit) : Option ((List Val) × Unit) :=
  bif a0.2.1 == 2 then
    (snap_list ([(2, a0.2.2.2.1, ())], ())).bind fun y1 =>
    some (y1.1, ())
  else
  bif a0.2.1 == 3 then
    (snap_list ([a0.2.2.2.2.1], ())).bind fun y2 =>
    some (y2.1, ())
  else
  bif a0.2.1 == 4 then
    (snap_list ([(2, a0.2.2.2.1, ()), a0.2.2.2.2.1], ())).bind fun y3 =>
    some (y3.1, ())
  else
  some ([], ())
def snap_Registers (x : ((List Val) × Int × (Int × Int × Val) × Int × Val × (List Int) × Unit) × Unit) : Option ((List Val) × Unit) := snap_Registers_r x.1
noncomputable def snap_Registers_sm : Sum := ⟨(.cons (.cons (.sl cVal) (.cons cI (.cons (.cons cI (.cons cI cVal)) (.cons cI (.cons cVal (.cons (.arr 4 cI) .nil)))))) .nil), (.cons (.d (.sl cVal)) .nil), snap_Registers⟩
noncomputable def snap_Registers_S : List (Nat × Sum) := [(161, snap_list_sm)]
noncomputable def snap_Registers_fl : List (Nat × Func) := []
noncomputable def snap_Registers_es : List AE := []
theorem snap_Registers_den : (fun x => denFun TEv (look1 snap_Registers_S) (look1 snap_Registers_fl) (annOf snap_Registers_es) 8 122 Go.Proofs.Tryd.f122 snap_Registers_sm.a snap_Registers_sm.r x) = snap_Registers_sm.F := by kernel_rfl
theorem snap_Registers_sem : SemOf Go.Proofs.Tryd.prog 122 snap_Registers_sm :=
  semMk teOk (sl := snap_Registers_S) (all_cons snap_list_sem all_nil) (fl := snap_Registers_fl) (all_nil) (es := snap_Registers_es) Go.Proofs.Tryd.func122 (by kernel_rfl) rfl (all_nil) rfl snap_Registers_den

/-! ### flotsam/snap.Held -/
def snap_Held_s0r (v6 : List ((List Val) × Int × (Int × Int × Val) × Int × Val × (List Int) × Unit)) (v7 : Int) (v8 : Int) (r80 : List Val) : Option (SRes (.cons (.sl (.cons (.sl cVal) (.cons cI (.cons (.cons cI (.cons cI cVal)) (.cons cI (.cons cVal (.cons (.arr 4 cI) .nil))))))) (.cons cI (.cons cI (.cons (.sl cVal) .nil)))) (.cons (.sl cVal) .nil) .nil) :=
  bif decide (v8 < v7) then
    bif decide (0 ≤ v8) then
      bif decide (v8 < (v6.length : Int)) then
        bif decide ((r80.length + (v6.getD v8.toNat ([], 0, (0, 0, 0, 0, ()), 0, (0, 0, ()), List.replicate 4 0, ())).1.length) * 16 ≤ 140737488355328) then
          (snap_Registers (v6.getD v8.toNat ([], 0, (0, 0, 0, 0, ()), 0, (0, 0, ()), List.replicate 4 0, ()), ())).bind fun y1 =>
          bif decide (((r80 ++ (v6.getD v8.toNat ([], 0, (0, 0, 0, 0, ()), 0, (0, 0, ()), List.replicate 4 0, ())).1).length + y1.1.length) * 16 ≤ 140737488355328) then
            some (.next (v6, v7, wi64 (v8 + 1), (r80 ++ (v6.getD v8.toNat ([], 0, (0, 0, 0, 0, ()), 0, (0, 0, ()), List.replicate 4 0, ())).1) ++ y1.1, ()))
          else none
        else none
      else none
    else none
  else
  some (.fin (.out (r80, ())))
def snap_Held_s0 (x : (List ((List Val) × Int × (Int × Int × Val) × Int × Val × (List Int) × Unit)) × Int × Int × (List Val) × Unit) : Option (SRes (.cons (.sl (.cons (.sl cVal) (.cons cI (.cons (.cons cI (.cons cI cVal)) (.cons cI (.cons cVal (.cons (.arr 4 cI) .nil))))))) (.cons cI (.cons cI (.cons (.sl cVal) .nil)))) (.cons (.sl cVal) .nil) .nil) := snap_Held_s0r x.1 x.2.1 x.2.2.1 x.2.2.2.1
def snap_Held_l0 (x : (List ((List Val) × Int × (Int × Int × Val) × Int × Val × (List Int) × Unit)) × Int × Int × (List Val) × Unit) : Option (LRes (.cons (.sl cVal) .nil) .nil) := iterL (h := (.cons (.sl (.cons (.sl cVal) (.cons cI (.cons (.cons cI (.cons cI cVal)) (.cons cI (.cons cVal (.cons (.arr 4 cI) .nil))))))) (.cons cI (.cons cI (.cons (.sl cVal) .nil))))) (o := (.cons (.sl cVal) .nil)) (r := .nil) snap_Held_s0 9223372036854775808 x
def snap_Held_r (a0 : List ((List Val) × Int × (Int × Int × Val) × Int × Val × (List Int) × Unit)) : Option ((List Val) × Unit) :=
  (snap_Held_l0 (a0, (a0.length : Int), 0, [], ())).bind fun s2 => match s2 with
  | .out s2 =>
    some (s2.1, ())
  | .ret s2 =>
    none
def snap_Held (x : (List ((List Val) × Int × (Int × Int × Val) × Int × Val × (List Int) × Unit)) × Unit) : Option ((List Val) × Unit) := snap_Held_r x.1
noncomputable def snap_Held_sm : Sum := ⟨(.cons (.sl (.cons (.sl cVal) (.cons cI (.cons (.cons cI (.cons cI cVal)) (.cons cI (.cons cVal (.cons (.arr 4 cI) .nil))))))) .nil), (.cons (.own cVal) .nil), snap_Held⟩
noncomputable def snap_Held_L0 : LoopSum := { hc := ⟨[], [3, 6, 7, 8], [(.tmp 3, cVal)], [], [], [], 80⟩, h := ⟨[(3, (.row 80)), (6, (.d (.sl (.cons (.sl cVal) (.cons cI (.cons (.cons cI (.cons cI cVal)) (.cons cI (.cons cVal (.cons (.arr 4 cI) .nil))))))))), (7, (.d cI)), (8, (.d cI))], [], [(80, cVal, true)], 81⟩, xid := 0, oc := ⟨[], [3], [(.tmp 3, cVal)], [], [], [], 80⟩, o := ⟨[(3, (.row 80))], [], [(80, cVal, true)], 81⟩, rc := ⟨[], [], [], [], [80], [], 80⟩, r := ⟨[], [], [], 80⟩, F := snap_Held_l0 }
noncomputable def snap_Held_S : List (Nat × Sum) := [(122, snap_Registers_sm)]
noncomputable def snap_Held_fl : List (Nat × Func) := []
noncomputable def snap_Held_es : List AE := [⟨8, 123, 0, 0, snap_Held_L0⟩]
theorem snap_Held_den0 : (fun x => denStep TEv (look1 snap_Held_S) (look1 snap_Held_fl) (annOf snap_Held_es) 8 123 Go.Proofs.Tryd.f123.ntmps 0 (cat (bodyOf Go.Proofs.Tryd.f123) [true, true, false, true, false, false]) snap_Held_L0 x) = snap_Held_s0 := by kernel_rfl
theorem snap_Held_den : (fun x => denFun TEv (look1 snap_Held_S) (look1 snap_Held_fl) (annOf snap_Held_es) 8 123 Go.Proofs.Tryd.f123 snap_Held_sm.a snap_Held_sm.r x) = snap_Held_sm.F := by kernel_rfl
theorem snap_Held_ok0 : AEok Go.Proofs.Tryd.prog TEv (look1 snap_Held_S) (look1 snap_Held_fl) (annOf snap_Held_es) ⟨8, 123, 0, 0, snap_Held_L0⟩ := aeok_of 9223372036854775808 Go.Proofs.Tryd.func123 (by kernel_rfl) snap_Held_den0 (by kernel_rfl)
theorem snap_Held_sem : SemOf Go.Proofs.Tryd.prog 123 snap_Held_sm :=
  semMk teOk (sl := snap_Held_S) (all_cons snap_Registers_sem all_nil) (fl := snap_Held_fl) (all_nil) (es := snap_Held_es) Go.Proofs.Tryd.func123 (by kernel_rfl) rfl (all_cons snap_Held_ok0 (all_nil)) rfl snap_Held_den

/-! ### flotsam/snap.Pending -/
def snap_Pending_s0r (v10 : List ((List Val) × Int × (Int × Int × Val) × Int × Val × (List Int) × Unit)) (v11 : Int) (v12 : Int) (c0 : Heap) (r96 : List Val) : Option (SRes (.cons (.sl (.cons (.sl cVal) (.cons cI (.cons (.cons cI (.cons cI cVal)) (.cons cI (.cons cVal (.cons (.arr 4 cI) .nil))))))) (.cons cI (.cons cI (.cons cHeap (.cons (.sl cVal) .nil))))) (.cons (.sl cVal) .nil) .nil) :=
  bif decide (v12 < v11) then
    bif decide (0 ≤ v12) then
      bif decide (v12 < (v10.length : Int)) then
        bif (v10.getD v12.toNat ([], 0, (0, 0, 0, 0, ()), 0, (0, 0, ()), List.replicate 4 0, ())).2.1 == 4 then
          (object_Field (c0, (v10.getD v12.toNat ([], 0, (0, 0, 0, 0, ()), 0, (0, 0, ()), List.replicate 4 0, ())).2.2.2.1, (v10.getD v12.toNat ([], 0, (0, 0, 0, 0, ()), 0, (0, 0, ()), List.replicate 4 0, ())).2.2.1.2.2.1, ())).bind fun y1 =>
          bif decide ((r96.length + 1) * 16 ≤ 140737488355328) then
            some (.next (v10, v11, wi64 (v12 + 1), c0, r96 ++ [(y1.1.1, y1.1.2.1, ())], ()))
          else none
        else
        some (.next (v10, v11, wi64 (v12 + 1), c0, r96, ()))
      else none
    else none
  else
  some (.fin (.out (r96, ())))
def snap_Pending_s0 (x : (List ((List Val) × Int × (Int × Int × Val) × Int × Val × (List Int) × Unit)) × Int × Int × Heap × (List Val) × Unit) : Option (SRes (.cons (.sl (.cons (.sl cVal) (.cons cI (.cons (.cons cI (.cons cI cVal)) (.cons cI (.cons cVal (.cons (.arr 4 cI) .nil))))))) (.cons cI (.cons cI (.cons cHeap (.cons (.sl cVal) .nil))))) (.cons (.sl cVal) .nil) .nil) := snap_Pending_s0r x.1 x.2.1 x.2.2.1 x.2.2.2.1 x.2.2.2.2.1
def snap_Pending_l0 (x : (List ((List Val) × Int × (Int × Int × Val) × Int × Val × (List Int) × Unit)) × Int × Int × Heap × (List Val) × Unit) : Option (LRes (.cons (.sl cVal) .nil) .nil) := iterL (h := (.cons (.sl (.cons (.sl cVal) (.cons cI (.cons (.cons cI (.cons cI cVal)) (.cons cI (.cons cVal (.cons (.arr 4 cI) .nil))))))) (.cons cI (.cons cI (.cons cHeap (.cons (.sl cVal) .nil)))))) (o := (.cons (.sl cVal) .nil)) (r := .nil) snap_Pending_s0 9223372036854775808 x
def snap_Pending_r (a0 : Heap) (a1 : List ((List Val) × Int × (Int × Int × Val) × Int × Val × (List Int) × Unit)) : Option ((List Val) × Unit) :=
  (snap_Pending_l0 (a1, (a1.length : Int), 0, a0, [], ())).bind fun s2 => match s2 with
  | .out s2 =>
    some (s2.1, ())
  | .ret s2 =>
    none
def snap_Pending (x : Heap × (List ((List Val) × Int × (Int × Int × Val) × Int × Val × (List Int) × Unit)) × Unit) : Option ((List Val) × Unit) := snap_Pending_r x.1 x.2.1
noncomputable def snap_Pending_sm : Sum := ⟨(.cons cHeap (.cons (.sl (.cons (.sl cVal) (.cons cI (.cons (.cons cI (.cons cI cVal)) (.cons cI (.cons cVal (.cons (.arr 4 cI) .nil))))))) .nil)), (.cons (.own cVal) .nil), snap_Pending⟩
noncomputable def snap_Pending_L0 : LoopSum := { hc := ⟨[], [2, 5, 10, 11, 12], [(.tmp 5, cVal)], [], [0], [], 96⟩, h := ⟨[(2, (.pvar 0 [])), (5, (.row 96)), (10, (.d (.sl (.cons (.sl cVal) (.cons cI (.cons (.cons cI (.cons cI cVal)) (.cons cI (.cons cVal (.cons (.arr 4 cI) .nil))))))))), (11, (.d cI)), (12, (.d cI))], [(0, (.d cHeap))], [(96, cVal, true)], 97⟩, xid := 0, oc := ⟨[], [5], [(.tmp 5, cVal)], [], [], [], 96⟩, o := ⟨[(5, (.row 96))], [], [(96, cVal, true)], 97⟩, rc := ⟨[], [], [], [], [96], [], 96⟩, r := ⟨[], [], [], 96⟩, F := snap_Pending_l0 }
noncomputable def snap_Pending_S : List (Nat × Sum) := [(80, object_Field_sm)]
noncomputable def snap_Pending_fl : List (Nat × Func) := []
noncomputable def snap_Pending_es : List AE := [⟨8, 124, 0, 0, snap_Pending_L0⟩]
theorem snap_Pending_den0 : (fun x => denStep TEv (look1 snap_Pending_S) (look1 snap_Pending_fl) (annOf snap_Pending_es) 8 124 Go.Proofs.Tryd.f124.ntmps 0 (cat (bodyOf Go.Proofs.Tryd.f124) [true, true, false, true, false, false]) snap_Pending_L0 x) = snap_Pending_s0 := by kernel_rfl
theorem snap_Pending_den : (fun x => denFun TEv (look1 snap_Pending_S) (look1 snap_Pending_fl) (annOf snap_Pending_es) 8 124 Go.Proofs.Tryd.f124 snap_Pending_sm.a snap_Pending_sm.r x) = snap_Pending_sm.F := by kernel_rfl
theorem snap_Pending_ok0 : AEok Go.Proofs.Tryd.prog TEv (look1 snap_Pending_S) (look1 snap_Pending_fl) (annOf snap_Pending_es) ⟨8, 124, 0, 0, snap_Pending_L0⟩ := aeok_of 9223372036854775808 Go.Proofs.Tryd.func124 (by kernel_rfl) snap_Pending_den0 (by kernel_rfl)
theorem snap_Pending_sem : SemOf Go.Proofs.Tryd.prog 124 snap_Pending_sm :=
  semMk teOk (sl := snap_Pending_S) (all_cons object_Field_sem all_nil) (fl := snap_Pending_fl) (all_nil) (es := snap_Pending_es) Go.Proofs.Tryd.func124 (by kernel_rfl) rfl (all_cons snap_Pending_ok0 (all_nil)) rfl snap_Pending_den

/-! ### math/bits.Mul32 -/
def math_bits_Mul32_r (a0 : Int) (a1 : Int) : Option (Int × Int × Unit) :=
  some (wu32 (shiftI false .u64 (wu64 ((wu64 a0) * (wu64 a1))) 32), wu32 (wu64 ((wu64 a0) * (wu64 a1))), ())
def math_bits_Mul32 (x : Int × Int × Unit) : Option (Int × Int × Unit) := math_bits_Mul32_r x.1 x.2.1
noncomputable def math_bits_Mul32_sm : Sum := ⟨(.cons (.int .u32) (.cons (.int .u32) .nil)), (.cons (.d (.int .u32)) (.cons (.d (.int .u32)) .nil)), math_bits_Mul32⟩
noncomputable def math_bits_Mul32_S : List (Nat × Sum) := []
noncomputable def math_bits_Mul32_fl : List (Nat × Func) := []
noncomputable def math_bits_Mul32_es : List AE := []
theorem math_bits_Mul32_den : (fun x => denFun TEv (look1 math_bits_Mul32_S) (look1 math_bits_Mul32_fl) (annOf math_bits_Mul32_es) 8 173 Go.Proofs.Tryd.f173 math_bits_Mul32_sm.a math_bits_Mul32_sm.r x) = math_bits_Mul32_sm.F := by kernel_rfl
theorem math_bits_Mul32_sem : SemOf Go.Proofs.Tryd.prog 173 math_bits_Mul32_sm :=
  semMk teOk (sl := math_bits_Mul32_S) (all_nil) (fl := math_bits_Mul32_fl) (all_nil) (es := math_bits_Mul32_es) Go.Proofs.Tryd.func173 (by kernel_rfl) rfl (all_nil) rfl math_bits_Mul32_den

/-! ### math/bits.Mul64 -/
def math_bits_Mul64_r (a0 : Int) (a1 : Int) : Option (Int × Int × Unit) :=
  some (wu64 ((wu64 ((wu64 ((shiftI false .u64 a0 32) * (shiftI false .u64 a1 32))) + (shiftI false .u64 (wu64 ((wu64 ((shiftI false .u64 a0 32) * (bitsI .and .u64 a1 4294967295))) + (shiftI false .u64 (wu64 ((bitsI .and .u64 a0 4294967295) * (bitsI .and .u64 a1 4294967295))) 32))) 32))) + (shiftI false .u64 (wu64 ((bitsI .and .u64 (wu64 ((wu64 ((shiftI false .u64 a0 32) * (bitsI .and .u64 a1 4294967295))) + (shiftI false .u64 (wu64 ((bitsI .and .u64 a0 4294967295) * (bitsI .and .u64 a1 4294967295))) 32))) 4294967295) + (wu64 ((bitsI .and .u64 a0 4294967295) * (shiftI false .u64 a1 32))))) 32)), wu64 (a0 * a1), ())
def math_bits_Mul64 (x : Int × Int × Unit) : Option (Int × Int × Unit) := math_bits_Mul64_r x.1 x.2.1
noncomputable def math_bits_Mul64_sm : Sum := ⟨(.cons (.int .u64) (.cons (.int .u64) .nil)), (.cons (.d (.int .u64)) (.cons (.d (.int .u64)) .nil)), math_bits_Mul64⟩
noncomputable def math_bits_Mul64_S : List (Nat × Sum) := []
noncomputable def math_bits_Mul64_fl : List (Nat × Func) := []
noncomputable def math_bits_Mul64_es : List AE := []
theorem math_bits_Mul64_den : (fun x => denFun TEv (look1 math_bits_Mul64_S) (look1 math_bits_Mul64_fl) (annOf math_bits_Mul64_es) 8 174 Go.Proofs.Tryd.f174 math_bits_Mul64_sm.a math_bits_Mul64_sm.r x) = math_bits_Mul64_sm.F := by kernel_rfl
theorem math_bits_Mul64_sem : SemOf Go.Proofs.Tryd.prog 174 math_bits_Mul64_sm :=
  semMk teOk (sl := math_bits_Mul64_S) (all_nil) (fl := math_bits_Mul64_fl) (all_nil) (es := math_bits_Mul64_es) Go.Proofs.Tryd.func174 (by kernel_rfl) rfl (all_nil) rfl math_bits_Mul64_den

/-! ### math/bits.Mul -/
def math_bits_Mul_r (a0 : Int) (a1 : Int) : Option (Int × Int × Unit) :=
  (math_bits_Mul64 (a0, a1, ())).bind fun y1 =>
  some (y1.1, y1.2.1, ())
def math_bits_Mul (x : Int × Int × Unit) : Option (Int × Int × Unit) := math_bits_Mul_r x.1 x.2.1
noncomputable def math_bits_Mul_sm : Sum := ⟨(.cons (.int .u64) (.cons (.int .u64) .nil)), (.cons (.d (.int .u64)) (.cons (.d (.int .u64)) .nil)), math_bits_Mul⟩
noncomputable def math_bits_Mul_S : List (Nat × Sum) := [(174, math_bits_Mul64_sm)]
noncomputable def math_bits_Mul_fl : List (Nat × Func) := []
noncomputable def math_bits_Mul_es : List AE := []
theorem math_bits_Mul_den : (fun x => denFun TEv (look1 math_bits_Mul_S) (look1 math_bits_Mul_fl) (annOf math_bits_Mul_es) 8 162 Go.Proofs.Tryd.f162 math_bits_Mul_sm.a math_bits_Mul_sm.r x) = math_bits_Mul_sm.F := by kernel_rfl
theorem math_bits_Mul_sem : SemOf Go.Proofs.Tryd.prog 162 math_bits_Mul_sm :=
  semMk teOk (sl := math_bits_Mul_S) (all_cons math_bits_Mul64_sem all_nil) (fl := math_bits_Mul_fl) (all_nil) (es := math_bits_Mul_es) Go.Proofs.Tryd.func162 (by kernel_rfl) rfl (all_nil) rfl math_bits_Mul_den

/-! ### slices.Repeat[[]int,int] -/
def slices_Repeat_s0r (v8 : Int) (r352 : List Int) : Option (SRes cGrey (.cons (.sl cI) .nil) .nil) :=
  bif decide (v8 < (r352.length : Int)) then
    bif decide (0 ≤ v8) then
      bif decide (v8 ≤ (r352.length : Int)) then
        bif decide ((r352.length : Int) ≤ (r352.length : Int)) then
          bif decide (0 ≤ v8) then
            bif decide (v8 ≤ (r352.length : Int)) then
              some (.next (wi64 (v8 + ((((r352.drop 0).take (v8.toNat - 0)).take ((r352.length : Int).toNat - v8.toNat)).length : Int)), segSet r352 v8.toNat (((r352.drop 0).take (v8.toNat - 0)).take ((r352.length : Int).toNat - v8.toNat)), ()))
            else none
          else none
        else none
      else none
    else none
  else
  some (.fin (.out (r352, ())))
def slices_Repeat_s0 (x : Grey) : Option (SRes cGrey (.cons (.sl cI) .nil) .nil) := slices_Repeat_s0r x.1 x.2.1
def slices_Repeat_l0 (x : Grey) : Option (LRes (.cons (.sl cI) .nil) .nil) := iterL (h := cGrey) (o := (.cons (.sl cI) .nil)) (r := .nil) slices_Repeat_s0 9223372036854775808 x
def slices_Repeat_r (a0 : List Int) (a1 : Int) : Option ((List Int) × Unit) :=
  bif decide (a1 < 0) then none else
  (math_bits_Mul (wu64 (a0.length : Int), wu64 a1, ())).bind fun y1 =>
  bif decide (y1.1 > 0) then none else
  bif decide (y1.2.1 > 9223372036854775807) then none else
  bif (wi64 y1.2.1) == (wi64 y1.2.1) then
    bif decide (0 ≤ (wi64 y1.2.1)) then
      bif decide ((wi64 y1.2.1).toNat * 8 ≤ 140737488355328) then
        (slices_Repeat_l0 (((a0.take (List.replicate (wi64 y1.2.1).toNat (0 : Int)).length).length : Int), segSet (List.replicate (wi64 y1.2.1).toNat (0 : Int)) 0 (a0.take (List.replicate (wi64 y1.2.1).toNat (0 : Int)).length), ())).bind fun s2 => match s2 with
        | .out s2 =>
          some (s2.1, ())
        | .ret s2 =>
          none
      else none
    else none
  else none
def slices_Repeat (x : (List Int) × Int × Unit) : Option ((List Int) × Unit) := slices_Repeat_r x.1 x.2.1
noncomputable def slices_Repeat_sm : Sum := ⟨(.cons (.sl cI) (.cons cI .nil)), (.cons (.own cI) .nil), slices_Repeat⟩
noncomputable def slices_Repeat_L0 : LoopSum := { hc := ⟨[], [7, 8], [], [], [], [352], 448⟩, h := ⟨[(7, (.row 352)), (8, (.d cI))], [], [(352, cI, true)], 448⟩, xid := 0, oc := ⟨[], [7], [], [], [], [352], 448⟩, o := ⟨[(7, (.row 352))], [], [(352, cI, true)], 448⟩, rc := ⟨[], [], [], [], [448], [], 448⟩, r := ⟨[], [], [], 448⟩, F := slices_Repeat_l0 }
noncomputable def slices_Repeat_S : List (Nat × Sum) := [(162, math_bits_Mul_sm)]
noncomputable def slices_Repeat_fl : List (Nat × Func) := []
noncomputable def slices_Repeat_es : List AE := [⟨8, 126, 0, 0, slices_Repeat_L0⟩]
theorem slices_Repeat_den0 : (fun x => denStep TEv (look1 slices_Repeat_S) (look1 slices_Repeat_fl) (annOf slices_Repeat_es) 8 126 Go.Proofs.Tryd.f126.ntmps 0 (cat (bodyOf Go.Proofs.Tryd.f126) [true, true, true, true, true, true, false, false, false]) slices_Repeat_L0 x) = slices_Repeat_s0 := by kernel_rfl
theorem slices_Repeat_den : (fun x => denFun TEv (look1 slices_Repeat_S) (look1 slices_Repeat_fl) (annOf slices_Repeat_es) 8 126 Go.Proofs.Tryd.f126 slices_Repeat_sm.a slices_Repeat_sm.r x) = slices_Repeat_sm.F := by kernel_rfl
theorem slices_Repeat_ok0 : AEok Go.Proofs.Tryd.prog TEv (look1 slices_Repeat_S) (look1 slices_Repeat_fl) (annOf slices_Repeat_es) ⟨8, 126, 0, 0, slices_Repeat_L0⟩ := aeok_of 9223372036854775808 Go.Proofs.Tryd.func126 (by kernel_rfl) slices_Repeat_den0 (by kernel_rfl)
theorem slices_Repeat_sem : SemOf Go.Proofs.Tryd.prog 126 slices_Repeat_sm :=
  semMk teOk (sl := slices_Repeat_S) (all_cons math_bits_Mul_sem all_nil) (fl := slices_Repeat_fl) (all_nil) (es := slices_Repeat_es) Go.Proofs.Tryd.func126 (by kernel_rfl) rfl (all_cons slices_Repeat_ok0 (all_nil)) rfl slices_Repeat_den

/-! ### flotsam/grey.New -/
def grey_New_r (a0 : Int) : Option (Grey × Bool × Unit) :=
  bif decide (a0 < 0) then
    some ((0, [], ()), false, ())
  else
  bif decide (a0 > 16) then
    some ((0, [], ()), false, ())
  else
  some ((a0, [], ()), true, ())
def grey_New (x : Int × Unit) : Option (Grey × Bool × Unit) := grey_New_r x.1
noncomputable def grey_New_sm : Sum := ⟨(.cons cI .nil), (.cons (.cons (.d cI) (.cons (.own cI) .nil)) (.cons (.d .bool) .nil)), grey_New⟩
noncomputable def grey_New_S : List (Nat × Sum) := []
noncomputable def grey_New_fl : List (Nat × Func) := []
noncomputable def grey_New_es : List AE := []
theorem grey_New_den : (fun x => denFun TEv (look1 grey_New_S) (look1 grey_New_fl) (annOf grey_New_es) 8 164 Go.Proofs.Tryd.f164 grey_New_sm.a grey_New_sm.r x) = grey_New_sm.F := by kernel_rfl
theorem grey_New_sem : SemOf Go.Proofs.Tryd.prog 164 grey_New_sm :=
  semMk teOk (sl := grey_New_S) (all_nil) (fl := grey_New_fl) (all_nil) (es := grey_New_es) Go.Proofs.Tryd.func164 (by kernel_rfl) rfl (all_nil) rfl grey_New_den

/-! ### flotsam/mark.New -/
def mark_New_s0r (v28 : List Int) (v29 : Int) (v30 : Int) (c0_0 : Int) (c0_1 : Unit) (c0_2 : Int × Int × Int × Bool × Unit) (c80_0 : Int) (c80_1 : Unit) (c80_2 : Int × Int × Int × Bool × Unit) (r48 : List Val) (r128 : List Int) (r368 : List Grey) : Option (SRes (.cons (.sl cI) (.cons cI (.cons cI (.cons cI (.cons .nil (.cons (.cons cI (.cons cI (.cons cI (.cons .bool .nil)))) (.cons cI (.cons .nil (.cons (.cons cI (.cons cI (.cons cI (.cons .bool .nil)))) (.cons (.sl cVal) (.cons (.sl cI) (.cons (.sl cGrey) .nil)))))))))))) (.cons cI (.cons .nil (.cons (.cons cI (.cons cI (.cons cI (.cons .bool .nil)))) (.cons cI (.cons .nil (.cons (.cons cI (.cons cI (.cons cI (.cons .bool .nil)))) (.cons (.sl cVal) (.cons (.sl cI) (.cons (.sl cGrey) .nil))))))))) (.cons .bool (.cons cI (.cons .nil (.cons (.cons cI (.cons cI (.cons cI (.cons .bool .nil)))) .nil))))) :=
  bif decide (v30 < v29) then
    bif decide (0 ≤ v30) then
      bif decide (v30 < (v28.length : Int)) then
        (grey_New (v28.getD v30.toNat 0, ())).bind fun y3 =>
        bif !y3.2.1 then
          some (.fin (.ret (false, 0, (), (0, 0, 0, false, ()), ())))
        else
        bif decide ((r368.length + 1) * 32 ≤ 140737488355328) then
          some (.next (v28, v29, wi64 (v30 + 1), c0_0, c0_1, c0_2, c80_0, c80_1, c80_2, r48, r128, r368 ++ [(y3.1.1, y3.1.2.1, ())], ()))
        else none
      else none
    else none
  else
  some (.fin (.out (c0_0, c0_1, c0_2, c80_0, c80_1, c80_2, r48, r128, r368, ())))
def mark_New_s0 (x : (List Int) × Int × Int × Int × Unit × (Int × Int × Int × Bool × Unit) × Int × Unit × (Int × Int × Int × Bool × Unit) × (List Val) × (List Int) × (List Grey) × Unit) : Option (SRes (.cons (.sl cI) (.cons cI (.cons cI (.cons cI (.cons .nil (.cons (.cons cI (.cons cI (.cons cI (.cons .bool .nil)))) (.cons cI (.cons .nil (.cons (.cons cI (.cons cI (.cons cI (.cons .bool .nil)))) (.cons (.sl cVal) (.cons (.sl cI) (.cons (.sl cGrey) .nil)))))))))))) (.cons cI (.cons .nil (.cons (.cons cI (.cons cI (.cons cI (.cons .bool .nil)))) (.cons cI (.cons .nil (.cons (.cons cI (.cons cI (.cons cI (.cons .bool .nil)))) (.cons (.sl cVal) (.cons (.sl cI) (.cons (.sl cGrey) .nil))))))))) (.cons .bool (.cons cI (.cons .nil (.cons (.cons cI (.cons cI (.cons cI (.cons .bool .nil)))) .nil))))) := mark_New_s0r x.1 x.2.1 x.2.2.1 x.2.2.2.1 x.2.2.2.2.1 x.2.2.2.2.2.1 x.2.2.2.2.2.2.1 x.2.2.2.2.2.2.2.1 x.2.2.2.2.2.2.2.2.1 x.2.2.2.2.2.2.2.2.2.1 x.2.2.2.2.2.2.2.2.2.2.1 x.2.2.2.2.2.2.2.2.2.2.2.1
def mark_New_l0 (x : (List Int) × Int × Int × Int × Unit × (Int × Int × Int × Bool × Unit) × Int × Unit × (Int × Int × Int × Bool × Unit) × (List Val) × (List Int) × (List Grey) × Unit) : Option (LRes (.cons cI (.cons .nil (.cons (.cons cI (.cons cI (.cons cI (.cons .bool .nil)))) (.cons cI (.cons .nil (.cons (.cons cI (.cons cI (.cons cI (.cons .bool .nil)))) (.cons (.sl cVal) (.cons (.sl cI) (.cons (.sl cGrey) .nil))))))))) (.cons .bool (.cons cI (.cons .nil (.cons (.cons cI (.cons cI (.cons cI (.cons .bool .nil)))) .nil))))) := iterL (h := (.cons (.sl cI) (.cons cI (.cons cI (.cons cI (.cons .nil (.cons (.cons cI (.cons cI (.cons cI (.cons .bool .nil)))) (.cons cI (.cons .nil (.cons (.cons cI (.cons cI (.cons cI (.cons .bool .nil)))) (.cons (.sl cVal) (.cons (.sl cI) (.cons (.sl cGrey) .nil))))))))))))) (o := (.cons cI (.cons .nil (.cons (.cons cI (.cons cI (.cons cI (.cons .bool .nil)))) (.cons cI (.cons .nil (.cons (.cons cI (.cons cI (.cons cI (.cons .bool .nil)))) (.cons (.sl cVal) (.cons (.sl cI) (.cons (.sl cGrey) .nil)))))))))) (r := (.cons .bool (.cons cI (.cons .nil (.cons (.cons cI (.cons cI (.cons cI (.cons .bool .nil)))) .nil))))) mark_New_s0 9223372036854775808 x
def mark_New_r (a0 : Int) (a1 : List Int) (a2 : List Val) : Option ((Grey × (List Grey) × (List Val) × Int × Int × Int × Bool × Unit) × Bool × Unit) :=
  (slices_Clone_api_Value (a2, ())).bind fun y1 =>
  (grey_New (a0, ())).bind fun y2 =>
  bif !y2.2.1 then
    some (((0, [], ()), [], [], 0, 0, 0, false, ()), false, ())
  else
  (mark_New_l0 (a1, (a1.length : Int), 0, 0, (), (0, 0, 0, false, ()), y2.1.1, (), ((-1), 0, (-1), false, ()), y1.1, y2.1.2.1, [], ())).bind fun s4 => match s4 with
  | .out s4 =>
    some (((s4.2.2.2.1, s4.2.2.2.2.2.2.2.1, s4.2.2.2.2.1), s4.2.2.2.2.2.2.2.2.1, s4.2.2.2.2.2.2.1, s4.2.2.2.2.2.1), true, ())
  | .ret s4 =>
    some (((s4.2.1, [], s4.2.2.1), [], [], s4.2.2.2.1), s4.1, ())
def mark_New (x : Int × (List Int) × (List Val) × Unit) : Option ((Grey × (List Grey) × (List Val) × Int × Int × Int × Bool × Unit) × Bool × Unit) := mark_New_r x.1 x.2.1 x.2.2.1
noncomputable def mark_New_sm : Sum := ⟨(.cons cI (.cons (.sl cI) (.cons (.sl cVal) .nil))), (.cons (.cons (.cons (.d cI) (.cons (.own cI) (.d .nil))) (.cons (.own cGrey) (.cons (.own cVal) (.d (.cons cI (.cons cI (.cons cI (.cons .bool .nil)))))))) (.cons (.d .bool) .nil)), mark_New⟩
noncomputable def mark_New_L0 : LoopSum := { hc := ⟨[], [6, 8, 28, 29, 30], [(.key 80 [.fld 1], cGrey)], [], [0, 80], [48, 128], 368⟩, h := ⟨[(6, (.pvar 0 [])), (8, (.pvar 80 [])), (28, (.d (.sl cI))), (29, (.d cI)), (30, (.d cI))], [(0, (.cons (.cons (.d cI) (.cons .nilsl (.d .nil))) (.cons .nilsl (.cons .nilsl (.d (.cons cI (.cons cI (.cons cI (.cons .bool .nil))))))))), (80, (.cons (.cons (.d cI) (.cons (.row 128) (.d .nil))) (.cons (.row 368) (.cons (.row 48) (.d (.cons cI (.cons cI (.cons cI (.cons .bool .nil)))))))))], [(48, cVal, true), (128, cI, true), (368, cGrey, true)], 369⟩, xid := 0, oc := ⟨[], [6, 8], [(.ptr 8 [.fld 1], cGrey)], [], [0, 80], [48, 128], 368⟩, o := ⟨[(6, (.pvar 0 [])), (8, (.pvar 80 []))], [(0, (.cons (.cons (.d cI) (.cons .nilsl (.d .nil))) (.cons .nilsl (.cons .nilsl (.d (.cons cI (.cons cI (.cons cI (.cons .bool .nil))))))))), (80, (.cons (.cons (.d cI) (.cons (.row 128) (.d .nil))) (.cons (.row 368) (.cons (.row 48) (.d (.cons cI (.cons cI (.cons cI (.cons .bool .nil)))))))))], [(48, cVal, true), (128, cI, true), (368, cGrey, true)], 369⟩, rc := ⟨[], [6, 7], [], [], [0], [], 368⟩, r := ⟨[(6, (.pvar 0 [])), (7, (.d .bool))], [(0, (.cons (.cons (.d cI) (.cons .nilsl (.d .nil))) (.cons .nilsl (.cons .nilsl (.d (.cons cI (.cons cI (.cons cI (.cons .bool .nil)))))))))], [], 368⟩, F := mark_New_l0 }
noncomputable def mark_New_S : List (Nat × Sum) := [(163, slices_Clone_api_Value_sm), (164, grey_New_sm)]
noncomputable def mark_New_fl : List (Nat × Func) := []
noncomputable def mark_New_es : List AE := [⟨8, 127, 0, 0, mark_New_L0⟩]
theorem mark_New_den0 : (fun x => denStep TEv (look1 mark_New_S) (look1 mark_New_fl) (annOf mark_New_es) 8 127 Go.Proofs.Tryd.f127.ntmps 0 (cat (bodyOf Go.Proofs.Tryd.f127) [true, true, true, true, true, false, true, false, false]) mark_New_L0 x) = mark_New_s0 := by kernel_rfl
theorem mark_New_den : (fun x => denFun TEv (look1 mark_New_S) (look1 mark_New_fl) (annOf mark_New_es) 8 127 Go.Proofs.Tryd.f127 mark_New_sm.a mark_New_sm.r x) = mark_New_sm.F := by kernel_rfl
theorem mark_New_ok0 : AEok Go.Proofs.Tryd.prog TEv (look1 mark_New_S) (look1 mark_New_fl) (annOf mark_New_es) ⟨8, 127, 0, 0, mark_New_L0⟩ := aeok_of 9223372036854775808 Go.Proofs.Tryd.func127 (by kernel_rfl) mark_New_den0 (by kernel_rfl)
theorem mark_New_sem : SemOf Go.Proofs.Tryd.prog 127 mark_New_sm :=
  semMk teOk (sl := mark_New_S) (all_cons slices_Clone_api_Value_sem (all_cons grey_New_sem all_nil)) (fl := mark_New_fl) (all_nil) (es := mark_New_es) Go.Proofs.Tryd.func127 (by kernel_rfl) rfl (all_cons mark_New_ok0 (all_nil)) rfl mark_New_den

/-! ### slices.Concat[[]flotsam/api.Value,flotsam/api.Value] -/
def slices_Concat_s0r (v0 : List (List Val)) (v3 : Int) (v9 : List (List Val)) (v10 : Int) (v11 : Int) : Option (SRes (.cons (.sl (.sl cVal)) (.cons cI (.cons (.sl (.sl cVal)) cVal))) (.cons (.sl (.sl cVal)) (.cons cI .nil)) .nil) :=
  bif decide (v11 < v10) then
    bif decide (0 ≤ v11) then
      bif decide (v11 < (v9.length : Int)) then
        bif decide ((wi64 (v3 + ((v9.getD v11.toNat []).length : Int))) < 0) then none else
        some (.next (v0, wi64 (v3 + ((v9.getD v11.toNat []).length : Int)), v9, v10, wi64 (v11 + 1), ()))
      else none
    else none
  else
  some (.fin (.out (v0, v3, ())))
def slices_Concat_s0 (x : (List (List Val)) × Int × (List (List Val)) × Val) : Option (SRes (.cons (.sl (.sl cVal)) (.cons cI (.cons (.sl (.sl cVal)) cVal))) (.cons (.sl (.sl cVal)) (.cons cI .nil)) .nil) := slices_Concat_s0r x.1 x.2.1 x.2.2.1 x.2.2.2.1 x.2.2.2.2.1
def slices_Concat_l0 (x : (List (List Val)) × Int × (List (List Val)) × Val) : Option (LRes (.cons (.sl (.sl cVal)) (.cons cI .nil)) .nil) := iterL (h := (.cons (.sl (.sl cVal)) (.cons cI (.cons (.sl (.sl cVal)) cVal)))) (o := (.cons (.sl (.sl cVal)) (.cons cI .nil))) (r := .nil) slices_Concat_s0 9223372036854775808 x
def slices_Concat_s1r (v25 : List (List Val)) (v26 : Int) (v27 : Int) (r576 : List Val) : Option (SRes (.cons (.sl (.sl cVal)) (.cons cI (.cons cI (.cons (.sl cVal) .nil)))) (.cons (.sl cVal) .nil) .nil) :=
  bif decide (v27 < v26) then
    bif decide (0 ≤ v27) then
      bif decide (v27 < (v25.length : Int)) then
        bif decide ((r576.length + (v25.getD v27.toNat []).length) * 16 ≤ 140737488355328) then
          some (.next (v25, v26, wi64 (v27 + 1), r576 ++ (v25.getD v27.toNat []), ()))
        else none
      else none
    else none
  else
  some (.fin (.out (r576, ())))
def slices_Concat_s1 (x : (List (List Val)) × Int × Int × (List Val) × Unit) : Option (SRes (.cons (.sl (.sl cVal)) (.cons cI (.cons cI (.cons (.sl cVal) .nil)))) (.cons (.sl cVal) .nil) .nil) := slices_Concat_s1r x.1 x.2.1 x.2.2.1 x.2.2.2.1
def slices_Concat_l1 (x : (List (List Val)) × Int × Int × (List Val) × Unit) : Option (LRes (.cons (.sl cVal) .nil) .nil) := iterL (h := (.cons (.sl (.sl cVal)) (.cons cI (.cons cI (.cons (.sl cVal) .nil))))) (o := (.cons (.sl cVal) .nil)) (r := .nil) slices_Concat_s1 9223372036854775808 x
def slices_Concat_r (a0 : List (List Val)) : Option ((List Val) × Unit) :=
  (slices_Concat_l0 (a0, 0, a0, (a0.length : Int), 0, ())).bind fun s1 => match s1 with
  | .out s1 =>
    bif decide (s1.2.1 < 0) then none else
    bif decide ((wi64 (s1.2.1 - 0)) > 0) then
      bif decide (0 ≤ (wi64 (wi64 (s1.2.1 - 0)))) then
        bif decide ((wi64 (wi64 (s1.2.1 - 0))).toNat * 16 ≤ 140737488355328) then
          bif decide (0 ≤ ((List.replicate (wi64 (wi64 (s1.2.1 - 0))).toNat ((0, 0, ()) : Val)).length : Int)) then
            (slices_Concat_l1 (s1.1, (s1.1.length : Int), 0, ((List.replicate (wi64 (wi64 (s1.2.1 - 0))).toNat ((0, 0, ()) : Val)).drop 0).take 0, ())).bind fun s2 => match s2 with
            | .out s2 =>
              some (s2.1, ())
            | .ret s2 =>
              none
          else none
        else none
      else none
    else
    (slices_Concat_l1 (s1.1, (s1.1.length : Int), 0, [], ())).bind fun s3 => match s3 with
    | .out s3 =>
      some (s3.1, ())
    | .ret s3 =>
      none
  | .ret s1 =>
    none
def slices_Concat (x : (List (List Val)) × Unit) : Option ((List Val) × Unit) := slices_Concat_r x.1
noncomputable def slices_Concat_sm : Sum := ⟨(.cons (.sl (.sl cVal)) .nil), (.cons (.own cVal) .nil), slices_Concat⟩
noncomputable def slices_Concat_L0 : LoopSum := { hc := ⟨[], [0, 3, 9, 10, 11], [], [], [], [], 80⟩, h := ⟨[(0, (.d (.sl (.sl cVal)))), (3, (.d cI)), (9, (.d (.sl (.sl cVal)))), (10, (.d cI)), (11, (.d cI))], [], [], 80⟩, xid := 0, oc := ⟨[], [0, 3], [], [], [], [], 80⟩, o := ⟨[(0, (.d (.sl (.sl cVal)))), (3, (.d cI))], [], [], 80⟩, rc := ⟨[], [], [], [], [80], [], 80⟩, r := ⟨[], [], [], 80⟩, F := slices_Concat_l0 }
noncomputable def slices_Concat_L1 : LoopSum := { hc := ⟨[], [6, 25, 26, 27], [(.tmp 6, cVal)], [], [], [], 576⟩, h := ⟨[(6, (.row 576)), (25, (.d (.sl (.sl cVal)))), (26, (.d cI)), (27, (.d cI))], [], [(576, cVal, true)], 577⟩, xid := 2, oc := ⟨[], [6], [(.tmp 6, cVal)], [], [], [], 576⟩, o := ⟨[(6, (.row 576))], [], [(576, cVal, true)], 577⟩, rc := ⟨[], [], [], [], [576], [], 576⟩, r := ⟨[], [], [], 576⟩, F := slices_Concat_l1 }
noncomputable def slices_Concat_S : List (Nat × Sum) := []
noncomputable def slices_Concat_fl : List (Nat × Func) := [(165, Go.Proofs.Tryd.f165)]
noncomputable def slices_Concat_es : List AE := [⟨8, 128, 0, 0, slices_Concat_L0⟩, ⟨8, 128, 0, 2, slices_Concat_L1⟩]
theorem slices_Concat_den0 : (fun x => denStep TEv (look1 slices_Concat_S) (look1 slices_Concat_fl) (annOf slices_Concat_es) 8 128 Go.Proofs.Tryd.f128.ntmps 0 (cat (bodyOf Go.Proofs.Tryd.f128) [true, true, false, true, false, false]) slices_Concat_L0 x) = slices_Concat_s0 := by kernel_rfl
theorem slices_Concat_den1 : (fun x => denStep TEv (look1 slices_Concat_S) (look1 slices_Concat_fl) (annOf slices_Concat_es) 8 128 Go.Proofs.Tryd.f128.ntmps 0 (cat (bodyOf Go.Proofs.Tryd.f128) [true, true, true, true, false, true, false, false]) slices_Concat_L1 x) = slices_Concat_s1 := by kernel_rfl
theorem slices_Concat_den : (fun x => denFun TEv (look1 slices_Concat_S) (look1 slices_Concat_fl) (annOf slices_Concat_es) 8 128 Go.Proofs.Tryd.f128 slices_Concat_sm.a slices_Concat_sm.r x) = slices_Concat_sm.F := by kernel_rfl
theorem slices_Concat_ok0 : AEok Go.Proofs.Tryd.prog TEv (look1 slices_Concat_S) (look1 slices_Concat_fl) (annOf slices_Concat_es) ⟨8, 128, 0, 0, slices_Concat_L0⟩ := aeok_of 9223372036854775808 Go.Proofs.Tryd.func128 (by kernel_rfl) slices_Concat_den0 (by kernel_rfl)
theorem slices_Concat_ok1 : AEok Go.Proofs.Tryd.prog TEv (look1 slices_Concat_S) (look1 slices_Concat_fl) (annOf slices_Concat_es) ⟨8, 128, 0, 2, slices_Concat_L1⟩ := aeok_of 9223372036854775808 Go.Proofs.Tryd.func128 (by kernel_rfl) slices_Concat_den1 (by kernel_rfl)
theorem slices_Concat_sem : SemOf Go.Proofs.Tryd.prog 128 slices_Concat_sm :=
  semMk teOk (sl := slices_Concat_S) (all_nil) (fl := slices_Concat_fl) (all_cons ⟨Go.Proofs.Tryd.func165, by kernel_rfl⟩ (all_nil)) (es := slices_Concat_es) Go.Proofs.Tryd.func128 (by kernel_rfl) rfl (all_cons slices_Concat_ok0 (all_cons slices_Concat_ok1 (all_nil))) rfl slices_Concat_den

/-! ### flotsam/snap.Begin -/
def snap_Begin_r (a0 : Int × Int × Int × Val) (a1 : Heap) (a2 : List ((List Val) × Int × (Int × Int × Val) × Int × Val × (List Int) × Unit)) : Option (Heap × (Grey × (List Grey) × (List Val) × Int × Int × Int × Bool × Unit) × Unit) :=
  (slices_Repeat ([a0.2.2.2.2.1], (a2.length : Int), ())).bind fun y1 =>
  (snap_Held (a2, ())).bind fun y2 =>
  (snap_Pending (a1, a2, ())).bind fun y3 =>
  (slices_Concat ([y2.1, y3.1], ())).bind fun y4 =>
  (mark_New (a0.2.2.2.1, y1.1, y4.1, ())).bind fun y5 =>
  (slices_Clone_uint64 (a1.1, ())).bind fun y6 =>
  (slices_Clone_api_Span (a1.2.1, ())).bind fun y7 =>
  some ((y6.1, y7.1, !a1.2.2.1, a1.2.2.2), ((y5.1.1.1, y5.1.1.2.1, y5.1.1.2.2), y5.1.2.1, y5.1.2.2.1, y5.1.2.2.2), ())
def snap_Begin (x : (Int × Int × Int × Val) × Heap × (List ((List Val) × Int × (Int × Int × Val) × Int × Val × (List Int) × Unit)) × Unit) : Option (Heap × (Grey × (List Grey) × (List Val) × Int × Int × Int × Bool × Unit) × Unit) := snap_Begin_r x.1 x.2.1 x.2.2.1
noncomputable def snap_Begin_sm : Sum := ⟨(.cons (.cons cI (.cons cI (.cons cI cVal))) (.cons cHeap (.cons (.sl (.cons (.sl cVal) (.cons cI (.cons (.cons cI (.cons cI cVal)) (.cons cI (.cons cVal (.cons (.arr 4 cI) .nil))))))) .nil))), (.cons (.cons (.own (.int .u64)) (.cons (.own cSpan) (.d (.cons .bool .nil)))) (.cons (.cons (.cons (.d cI) (.cons (.own cI) (.d .nil))) (.cons (.own cGrey) (.cons (.own cVal) (.d (.cons cI (.cons cI (.cons cI (.cons .bool .nil)))))))) .nil)), snap_Begin⟩
noncomputable def snap_Begin_S : List (Nat × Sum) := [(123, snap_Held_sm), (124, snap_Pending_sm), (126, slices_Repeat_sm), (127, mark_New_sm), (128, slices_Concat_sm), (129, slices_Clone_uint64_sm), (130, slices_Clone_api_Span_sm)]
noncomputable def snap_Begin_fl : List (Nat × Func) := []
noncomputable def snap_Begin_es : List AE := []
theorem snap_Begin_den : (fun x => denFun TEv (look1 snap_Begin_S) (look1 snap_Begin_fl) (annOf snap_Begin_es) 8 62 Go.Proofs.Tryd.f62 snap_Begin_sm.a snap_Begin_sm.r x) = snap_Begin_sm.F := by kernel_rfl
theorem snap_Begin_sem : SemOf Go.Proofs.Tryd.prog 62 snap_Begin_sm :=
  semMk teOk (sl := snap_Begin_S) (all_cons snap_Held_sem (all_cons snap_Pending_sem (all_cons slices_Repeat_sem (all_cons mark_New_sem (all_cons slices_Concat_sem (all_cons slices_Clone_uint64_sem (all_cons slices_Clone_api_Span_sem all_nil))))))) (fl := snap_Begin_fl) (all_nil) (es := snap_Begin_es) Go.Proofs.Tryd.func62 (by kernel_rfl) rfl (all_nil) rfl snap_Begin_den

/-! ### flotsam/flotsamref01.Same -/
def flotsamref01_Same_s0r (v0 : List Val) (v1 : List Val) (v5 : Int) : Option (SRes (.cons (.sl cVal) (.cons (.sl cVal) (.cons cI .nil))) .nil (.cons .bool .nil)) :=
  bif decide (v5 < (v0.length : Int)) then
    bif decide (0 ≤ v5) then
      bif decide (v5 < (v0.length : Int)) then
        bif decide (0 ≤ v5) then
          bif decide (v5 < (v1.length : Int)) then
            bif !(((v0.getD v5.toNat (0, 0, ())).1 == (v1.getD v5.toNat (0, 0, ())).1) && (((v0.getD v5.toNat (0, 0, ())).2.1 == (v1.getD v5.toNat (0, 0, ())).2.1) && true)) then
              some (.fin (.ret (false, ())))
            else
            some (.next (v0, v1, wi64 (v5 + 1), ()))
          else none
        else none
      else none
    else none
  else
  some (.fin (.out ()))
def flotsamref01_Same_s0 (x : (List Val) × (List Val) × Int × Unit) : Option (SRes (.cons (.sl cVal) (.cons (.sl cVal) (.cons cI .nil))) .nil (.cons .bool .nil)) := flotsamref01_Same_s0r x.1 x.2.1 x.2.2.1
def flotsamref01_Same_l0 (x : (List Val) × (List Val) × Int × Unit) : Option (LRes .nil (.cons .bool .nil)) := iterL (h := (.cons (.sl cVal) (.cons (.sl cVal) (.cons cI .nil)))) (o := .nil) (r := (.cons .bool .nil)) flotsamref01_Same_s0 9223372036854775808 x
def flotsamref01_Same_r (a0 : List Val) (a1 : List Val) : Option (Bool × Unit) :=
  bif (a0.length : Int) != (a1.length : Int) then
    some (false, ())
  else
  (flotsamref01_Same_l0 (a0, a1, 0, ())).bind fun s1 => match s1 with
  | .out s1 =>
    some (true, ())
  | .ret s1 =>
    some (s1.1, ())
def flotsamref01_Same (x : (List Val) × (List Val) × Unit) : Option (Bool × Unit) := flotsamref01_Same_r x.1 x.2.1
noncomputable def flotsamref01_Same_sm : Sum := ⟨(.cons (.sl cVal) (.cons (.sl cVal) .nil)), (.cons (.d .bool) .nil), flotsamref01_Same⟩
noncomputable def flotsamref01_Same_L0 : LoopSum := { hc := ⟨[], [0, 1, 5], [], [], [], [], 112⟩, h := ⟨[(0, (.d (.sl cVal))), (1, (.d (.sl cVal))), (5, (.d cI))], [], [], 112⟩, xid := 0, oc := ⟨[], [], [], [], [], [], 112⟩, o := ⟨[], [], [], 112⟩, rc := ⟨[], [4], [], [], [], [], 112⟩, r := ⟨[(4, (.d .bool))], [], [], 112⟩, F := flotsamref01_Same_l0 }
noncomputable def flotsamref01_Same_S : List (Nat × Sum) := []
noncomputable def flotsamref01_Same_fl : List (Nat × Func) := []
noncomputable def flotsamref01_Same_es : List AE := [⟨8, 121, 0, 0, flotsamref01_Same_L0⟩]
theorem flotsamref01_Same_den0 : (fun x => denStep TEv (look1 flotsamref01_Same_S) (look1 flotsamref01_Same_fl) (annOf flotsamref01_Same_es) 8 121 Go.Proofs.Tryd.f121.ntmps 0 (cat (bodyOf Go.Proofs.Tryd.f121) [true, true, false, true, false, false]) flotsamref01_Same_L0 x) = flotsamref01_Same_s0 := by kernel_rfl
theorem flotsamref01_Same_den : (fun x => denFun TEv (look1 flotsamref01_Same_S) (look1 flotsamref01_Same_fl) (annOf flotsamref01_Same_es) 8 121 Go.Proofs.Tryd.f121 flotsamref01_Same_sm.a flotsamref01_Same_sm.r x) = flotsamref01_Same_sm.F := by kernel_rfl
theorem flotsamref01_Same_ok0 : AEok Go.Proofs.Tryd.prog TEv (look1 flotsamref01_Same_S) (look1 flotsamref01_Same_fl) (annOf flotsamref01_Same_es) ⟨8, 121, 0, 0, flotsamref01_Same_L0⟩ := aeok_of 9223372036854775808 Go.Proofs.Tryd.func121 (by kernel_rfl) flotsamref01_Same_den0 (by kernel_rfl)
theorem flotsamref01_Same_sem : SemOf Go.Proofs.Tryd.prog 121 flotsamref01_Same_sm :=
  semMk teOk (sl := flotsamref01_Same_S) (all_nil) (fl := flotsamref01_Same_fl) (all_nil) (es := flotsamref01_Same_es) Go.Proofs.Tryd.func121 (by kernel_rfl) rfl (all_cons flotsamref01_Same_ok0 (all_nil)) rfl flotsamref01_Same_den
end Go.Proofs.YtdfhopakojmjkaaDoor.Den
