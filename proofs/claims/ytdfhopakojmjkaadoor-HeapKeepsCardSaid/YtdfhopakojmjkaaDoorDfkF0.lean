/- What functions come to. Printed by a program of this session. -/
import Derived.Test.YtdfhopakojmjkaaDoorDfkFw
namespace Go.Proofs.YtdfhopakojmjkaaDoor.Dfk
open Go
set_option maxRecDepth 100000
set_option linter.unusedVariables false
/-! ### flotsam/flotsamref04.Blocks -/
def flotsamref04_Blocks_s0r (v0 : Int) (v3 : Int) (v4 : Int) : Option (SRes (.cons cI cVal) (.cons cI .nil) .nil) :=
  bif decide (v4 < v0) then
    some (.next (v0, wi64 (v3.tdiv 2), wi64 (v4 + 1), ()))
  else
  some (.fin (.out (v3, ())))
def flotsamref04_Blocks_s0 (x : Int × Val) : Option (SRes (.cons cI cVal) (.cons cI .nil) .nil) := flotsamref04_Blocks_s0r x.1 x.2.1 x.2.2.1
def flotsamref04_Blocks_l0 (x : Int × Val) : Option (LRes (.cons cI .nil) .nil) := iterL (h := (.cons cI cVal)) (o := (.cons cI .nil)) (r := .nil) flotsamref04_Blocks_s0 9223372036854775808 x
def flotsamref04_Blocks_r (a0 : Int) : Option (Int × Unit) :=
  bif decide (a0 < 0) then
    some (0, ())
  else
  bif decide (a0 > 3) then
    some (0, ())
  else
  (flotsamref04_Blocks_l0 (a0, 16, 0, ())).bind fun s1 => match s1 with
  | .out s1 =>
    some (s1.1, ())
  | .ret s1 =>
    none
def flotsamref04_Blocks (x : Int × Unit) : Option (Int × Unit) := flotsamref04_Blocks_r x.1
noncomputable def flotsamref04_Blocks_sm : Sum := ⟨(.cons cI .nil), (.cons (.d cI) .nil), flotsamref04_Blocks⟩
noncomputable def flotsamref04_Blocks_L0 : LoopSum := { hc := ⟨[], [0, 3, 4], [], [], [], [], 144⟩, h := ⟨[(0, (.d cI)), (3, (.d cI)), (4, (.d cI))], [], [], 144⟩, xid := 0, oc := ⟨[], [3], [], [], [], [], 144⟩, o := ⟨[(3, (.d cI))], [], [], 144⟩, rc := ⟨[], [], [], [], [], [], 144⟩, r := ⟨[], [], [], 144⟩, F := flotsamref04_Blocks_l0 }
noncomputable def flotsamref04_Blocks_S : List (Nat × Sum) := []
noncomputable def flotsamref04_Blocks_fl : List (Nat × Func) := []
noncomputable def flotsamref04_Blocks_es : List AE := [⟨8, 99, 0, 0, flotsamref04_Blocks_L0⟩]
theorem flotsamref04_Blocks_den0 : (fun x => denStep TEv (look1 flotsamref04_Blocks_S) (look1 flotsamref04_Blocks_fl) (annOf flotsamref04_Blocks_es) 8 99 Go.Proofs.Tryd.f99.ntmps 0 (cat (bodyOf Go.Proofs.Tryd.f99) [true, true, true, false, true, false, false]) flotsamref04_Blocks_L0 x) = flotsamref04_Blocks_s0 := by kernel_rfl
theorem flotsamref04_Blocks_den : (fun x => denFun TEv (look1 flotsamref04_Blocks_S) (look1 flotsamref04_Blocks_fl) (annOf flotsamref04_Blocks_es) 8 99 Go.Proofs.Tryd.f99 flotsamref04_Blocks_sm.a flotsamref04_Blocks_sm.r x) = flotsamref04_Blocks_sm.F := by kernel_rfl
theorem flotsamref04_Blocks_ok0 : AEok Go.Proofs.Tryd.prog TEv (look1 flotsamref04_Blocks_S) (look1 flotsamref04_Blocks_fl) (annOf flotsamref04_Blocks_es) ⟨8, 99, 0, 0, flotsamref04_Blocks_L0⟩ := aeok_of 9223372036854775808 Go.Proofs.Tryd.func99 (by kernel_rfl) flotsamref04_Blocks_den0 (by kernel_rfl)
theorem flotsamref04_Blocks_sem : SemOf Go.Proofs.Tryd.prog 99 flotsamref04_Blocks_sm :=
  semMk teOk (sl := flotsamref04_Blocks_S) (all_nil) (fl := flotsamref04_Blocks_fl) (all_nil) (es := flotsamref04_Blocks_es) Go.Proofs.Tryd.func99 (by kernel_rfl) rfl (all_cons flotsamref04_Blocks_ok0 (all_nil)) rfl flotsamref04_Blocks_den

/-! ### flotsam/flotsamref06.InUse -/
def flotsamref06_InUse_r (a0 : Span) : Option (Bool × Unit) :=
  bif a0.1 == 1 then
    some (true, ())
  else
  some (a0.1 == 2, ())
def flotsamref06_InUse (x : Span × Unit) : Option (Bool × Unit) := flotsamref06_InUse_r x.1
noncomputable def flotsamref06_InUse_sm : Sum := ⟨(.cons cSpan .nil), (.cons (.d .bool) .nil), flotsamref06_InUse⟩
noncomputable def flotsamref06_InUse_S : List (Nat × Sum) := []
noncomputable def flotsamref06_InUse_fl : List (Nat × Func) := []
noncomputable def flotsamref06_InUse_es : List AE := []
theorem flotsamref06_InUse_den : (fun x => denFun TEv (look1 flotsamref06_InUse_S) (look1 flotsamref06_InUse_fl) (annOf flotsamref06_InUse_es) 8 136 Go.Proofs.Tryd.f136 flotsamref06_InUse_sm.a flotsamref06_InUse_sm.r x) = flotsamref06_InUse_sm.F := by kernel_rfl
theorem flotsamref06_InUse_sem : SemOf Go.Proofs.Tryd.prog 136 flotsamref06_InUse_sm :=
  semMk teOk (sl := flotsamref06_InUse_S) (all_nil) (fl := flotsamref06_InUse_fl) (all_nil) (es := flotsamref06_InUse_es) Go.Proofs.Tryd.func136 (by kernel_rfl) rfl (all_nil) rfl flotsamref06_InUse_den

/-! ### flotsam/flotsamref03.Has -/
def flotsamref03_Has_s0r (v0 : Int) (v1 : Int) (v5 : Int) : Option (SRes (.cons (.int .u32) cVal) (.cons (.int .u32) .nil) .nil) :=
  bif decide (v5 < v1) then
    some (.next (wu32 (v0.tdiv 2), v1, wi64 (v5 + 1), ()))
  else
  some (.fin (.out (v0, ())))
def flotsamref03_Has_s0 (x : Int × Val) : Option (SRes (.cons (.int .u32) cVal) (.cons (.int .u32) .nil) .nil) := flotsamref03_Has_s0r x.1 x.2.1 x.2.2.1
def flotsamref03_Has_l0 (x : Int × Val) : Option (LRes (.cons (.int .u32) .nil) .nil) := iterL (h := (.cons (.int .u32) cVal)) (o := (.cons (.int .u32) .nil)) (r := .nil) flotsamref03_Has_s0 9223372036854775808 x
def flotsamref03_Has_r (a0 : Int) (a1 : Int) : Option (Bool × Unit) :=
  bif decide (a1 < 0) then
    some (false, ())
  else
  bif decide (a1 > 31) then
    some (false, ())
  else
  (flotsamref03_Has_l0 (a0, a1, 0, ())).bind fun s1 => match s1 with
  | .out s1 =>
    some ((s1.1.tmod 2) == 1, ())
  | .ret s1 =>
    none
def flotsamref03_Has (x : Int × Int × Unit) : Option (Bool × Unit) := flotsamref03_Has_r x.1 x.2.1
noncomputable def flotsamref03_Has_sm : Sum := ⟨(.cons (.int .u32) (.cons cI .nil)), (.cons (.d .bool) .nil), flotsamref03_Has⟩
noncomputable def flotsamref03_Has_L0 : LoopSum := { hc := ⟨[], [0, 1, 5], [], [], [], [], 128⟩, h := ⟨[(0, (.d (.int .u32))), (1, (.d cI)), (5, (.d cI))], [], [], 128⟩, xid := 0, oc := ⟨[], [0], [], [], [], [], 128⟩, o := ⟨[(0, (.d (.int .u32)))], [], [], 128⟩, rc := ⟨[], [], [], [], [], [], 128⟩, r := ⟨[], [], [], 128⟩, F := flotsamref03_Has_l0 }
noncomputable def flotsamref03_Has_S : List (Nat × Sum) := []
noncomputable def flotsamref03_Has_fl : List (Nat × Func) := []
noncomputable def flotsamref03_Has_es : List AE := [⟨8, 137, 0, 0, flotsamref03_Has_L0⟩]
theorem flotsamref03_Has_den0 : (fun x => denStep TEv (look1 flotsamref03_Has_S) (look1 flotsamref03_Has_fl) (annOf flotsamref03_Has_es) 8 137 Go.Proofs.Tryd.f137.ntmps 0 (cat (bodyOf Go.Proofs.Tryd.f137) [true, true, false, true, false, false]) flotsamref03_Has_L0 x) = flotsamref03_Has_s0 := by kernel_rfl
theorem flotsamref03_Has_den : (fun x => denFun TEv (look1 flotsamref03_Has_S) (look1 flotsamref03_Has_fl) (annOf flotsamref03_Has_es) 8 137 Go.Proofs.Tryd.f137 flotsamref03_Has_sm.a flotsamref03_Has_sm.r x) = flotsamref03_Has_sm.F := by kernel_rfl
theorem flotsamref03_Has_ok0 : AEok Go.Proofs.Tryd.prog TEv (look1 flotsamref03_Has_S) (look1 flotsamref03_Has_fl) (annOf flotsamref03_Has_es) ⟨8, 137, 0, 0, flotsamref03_Has_L0⟩ := aeok_of 9223372036854775808 Go.Proofs.Tryd.func137 (by kernel_rfl) flotsamref03_Has_den0 (by kernel_rfl)
theorem flotsamref03_Has_sem : SemOf Go.Proofs.Tryd.prog 137 flotsamref03_Has_sm :=
  semMk teOk (sl := flotsamref03_Has_S) (all_nil) (fl := flotsamref03_Has_fl) (all_nil) (es := flotsamref03_Has_es) Go.Proofs.Tryd.func137 (by kernel_rfl) rfl (all_cons flotsamref03_Has_ok0 (all_nil)) rfl flotsamref03_Has_den

/-! ### flotsam/flotsamref06.Right -/
def flotsamref06_Right_s0r (v3 : Int) (c0 : Span) : Option (SRes (.cons cI (.cons cSpan .nil)) .nil (.cons .bool .nil)) :=
  bif decide (v3 < 32) then
    (flotsamref03_Has (c0.2.2.1, v3, ())).bind fun y3 =>
    bif y3.1 then
      some (.fin (.ret (false, ())))
    else
    some (.next (wi64 (v3 + 1), c0, ()))
  else
  some (.fin (.out ()))
def flotsamref06_Right_s0 (x : Int × Span × Unit) : Option (SRes (.cons cI (.cons cSpan .nil)) .nil (.cons .bool .nil)) := flotsamref06_Right_s0r x.1 x.2.1
def flotsamref06_Right_l0 (x : Int × Span × Unit) : Option (LRes .nil (.cons .bool .nil)) := iterL (h := (.cons cI (.cons cSpan .nil))) (o := .nil) (r := (.cons .bool .nil)) flotsamref06_Right_s0 9223372036854775808 x
def flotsamref06_Right_r (a0 : Span) : Option (Bool × Unit) :=
  bif a0.1 == 0 then
    bif a0.2.1 == 0 then
      some (a0.2.2.1 == 0, ())
    else
    some (false, ())
  else
  (flotsamref06_InUse (a0, ())).bind fun y1 =>
  bif !y1.1 then
    some (false, ())
  else
  bif decide (a0.2.1 < 0) then
    some (false, ())
  else
  bif decide (a0.2.1 > 3) then
    some (false, ())
  else
  (flotsamref04_Blocks (a0.2.1, ())).bind fun y2 =>
  (flotsamref06_Right_l0 (y2.1, a0, ())).bind fun s4 => match s4 with
  | .out s4 =>
    some (true, ())
  | .ret s4 =>
    some (s4.1, ())
def flotsamref06_Right (x : Span × Unit) : Option (Bool × Unit) := flotsamref06_Right_r x.1
noncomputable def flotsamref06_Right_sm : Sum := ⟨(.cons cSpan .nil), (.cons (.d .bool) .nil), flotsamref06_Right⟩
noncomputable def flotsamref06_Right_L0 : LoopSum := { hc := ⟨[], [1, 3], [], [], [0], [], 352⟩, h := ⟨[(1, (.pvar 0 [])), (3, (.d cI))], [(0, (.d cSpan))], [], 352⟩, xid := 0, oc := ⟨[], [], [], [], [], [], 352⟩, o := ⟨[], [], [], 352⟩, rc := ⟨[], [2], [], [], [], [], 352⟩, r := ⟨[(2, (.d .bool))], [], [], 352⟩, F := flotsamref06_Right_l0 }
noncomputable def flotsamref06_Right_S : List (Nat × Sum) := [(99, flotsamref04_Blocks_sm), (136, flotsamref06_InUse_sm), (137, flotsamref03_Has_sm)]
noncomputable def flotsamref06_Right_fl : List (Nat × Func) := []
noncomputable def flotsamref06_Right_es : List AE := [⟨8, 71, 0, 0, flotsamref06_Right_L0⟩]
theorem flotsamref06_Right_den0 : (fun x => denStep TEv (look1 flotsamref06_Right_S) (look1 flotsamref06_Right_fl) (annOf flotsamref06_Right_es) 8 71 Go.Proofs.Tryd.f71.ntmps 0 (cat (bodyOf Go.Proofs.Tryd.f71) [true, true, true, false, true, false, false]) flotsamref06_Right_L0 x) = flotsamref06_Right_s0 := by kernel_rfl
theorem flotsamref06_Right_den : (fun x => denFun TEv (look1 flotsamref06_Right_S) (look1 flotsamref06_Right_fl) (annOf flotsamref06_Right_es) 8 71 Go.Proofs.Tryd.f71 flotsamref06_Right_sm.a flotsamref06_Right_sm.r x) = flotsamref06_Right_sm.F := by kernel_rfl
theorem flotsamref06_Right_ok0 : AEok Go.Proofs.Tryd.prog TEv (look1 flotsamref06_Right_S) (look1 flotsamref06_Right_fl) (annOf flotsamref06_Right_es) ⟨8, 71, 0, 0, flotsamref06_Right_L0⟩ := aeok_of 9223372036854775808 Go.Proofs.Tryd.func71 (by kernel_rfl) flotsamref06_Right_den0 (by kernel_rfl)
theorem flotsamref06_Right_sem : SemOf Go.Proofs.Tryd.prog 71 flotsamref06_Right_sm :=
  semMk teOk (sl := flotsamref06_Right_S) (all_cons flotsamref04_Blocks_sem (all_cons flotsamref06_InUse_sem (all_cons flotsamref03_Has_sem all_nil))) (fl := flotsamref06_Right_fl) (all_nil) (es := flotsamref06_Right_es) Go.Proofs.Tryd.func71 (by kernel_rfl) rfl (all_cons flotsamref06_Right_ok0 (all_nil)) rfl flotsamref06_Right_den

/-! ### flotsam/flotsamref07.Form -/
def flotsamref07_Form_s0r (v3 : Int) (c0 : Heap) : Option (SRes (.cons cI (.cons cHeap .nil)) .nil (.cons .bool .nil)) :=
  bif decide (v3 < (c0.2.1.length : Int)) then
    bif decide (0 ≤ v3) then
      bif decide (v3 < (c0.2.1.length : Int)) then
        (flotsamref06_Right (c0.2.1.getD v3.toNat (0, 0, 0, ()), ())).bind fun y1 =>
        bif !y1.1 then
          some (.fin (.ret (false, ())))
        else
        some (.next (wi64 (v3 + 1), c0, ()))
      else none
    else none
  else
  some (.fin (.out ()))
def flotsamref07_Form_s0 (x : Int × Heap × Unit) : Option (SRes (.cons cI (.cons cHeap .nil)) .nil (.cons .bool .nil)) := flotsamref07_Form_s0r x.1 x.2.1
def flotsamref07_Form_l0 (x : Int × Heap × Unit) : Option (LRes .nil (.cons .bool .nil)) := iterL (h := (.cons cI (.cons cHeap .nil))) (o := .nil) (r := (.cons .bool .nil)) flotsamref07_Form_s0 9223372036854775808 x
def flotsamref07_Form_r (a0 : Heap) : Option (Bool × Unit) :=
  bif decide ((a0.2.1.length : Int) < 1) then
    some (false, ())
  else
  bif decide ((a0.2.1.length : Int) > 16) then
    some (false, ())
  else
  bif (a0.1.length : Int) != (wi64 (32 * (a0.2.1.length : Int))) then
    some (false, ())
  else
  (flotsamref07_Form_l0 (0, a0, ())).bind fun s2 => match s2 with
  | .out s2 =>
    some (true, ())
  | .ret s2 =>
    some (s2.1, ())
def flotsamref07_Form (x : Heap × Unit) : Option (Bool × Unit) := flotsamref07_Form_r x.1
noncomputable def flotsamref07_Form_sm : Sum := ⟨(.cons cHeap .nil), (.cons (.d .bool) .nil), flotsamref07_Form⟩
noncomputable def flotsamref07_Form_L0 : LoopSum := { hc := ⟨[], [1, 3], [], [], [0], [], 368⟩, h := ⟨[(1, (.pvar 0 [])), (3, (.d cI))], [(0, (.d cHeap))], [], 368⟩, xid := 0, oc := ⟨[], [], [], [], [], [], 368⟩, o := ⟨[], [], [], 368⟩, rc := ⟨[], [2], [], [], [], [], 368⟩, r := ⟨[(2, (.d .bool))], [], [], 368⟩, F := flotsamref07_Form_l0 }
noncomputable def flotsamref07_Form_S : List (Nat × Sum) := [(71, flotsamref06_Right_sm)]
noncomputable def flotsamref07_Form_fl : List (Nat × Func) := []
noncomputable def flotsamref07_Form_es : List AE := [⟨8, 21, 0, 0, flotsamref07_Form_L0⟩]
theorem flotsamref07_Form_den0 : (fun x => denStep TEv (look1 flotsamref07_Form_S) (look1 flotsamref07_Form_fl) (annOf flotsamref07_Form_es) 8 21 Go.Proofs.Tryd.f21.ntmps 0 (cat (bodyOf Go.Proofs.Tryd.f21) [true, true, false, true, false, false]) flotsamref07_Form_L0 x) = flotsamref07_Form_s0 := by kernel_rfl
theorem flotsamref07_Form_den : (fun x => denFun TEv (look1 flotsamref07_Form_S) (look1 flotsamref07_Form_fl) (annOf flotsamref07_Form_es) 8 21 Go.Proofs.Tryd.f21 flotsamref07_Form_sm.a flotsamref07_Form_sm.r x) = flotsamref07_Form_sm.F := by kernel_rfl
theorem flotsamref07_Form_ok0 : AEok Go.Proofs.Tryd.prog TEv (look1 flotsamref07_Form_S) (look1 flotsamref07_Form_fl) (annOf flotsamref07_Form_es) ⟨8, 21, 0, 0, flotsamref07_Form_L0⟩ := aeok_of 9223372036854775808 Go.Proofs.Tryd.func21 (by kernel_rfl) flotsamref07_Form_den0 (by kernel_rfl)
theorem flotsamref07_Form_sem : SemOf Go.Proofs.Tryd.prog 21 flotsamref07_Form_sm :=
  semMk teOk (sl := flotsamref07_Form_S) (all_cons flotsamref06_Right_sem all_nil) (fl := flotsamref07_Form_fl) (all_nil) (es := flotsamref07_Form_es) Go.Proofs.Tryd.func21 (by kernel_rfl) rfl (all_cons flotsamref07_Form_ok0 (all_nil)) rfl flotsamref07_Form_den

/-! ### flotsam/flotsamref05.Same -/
def flotsamref05_Same_s0r (v0 : List Int) (v1 : List Int) (v5 : Int) : Option (SRes (.cons (.sl (.int .u64)) (.cons (.sl (.int .u64)) (.cons cI .nil))) .nil (.cons .bool .nil)) :=
  bif decide (v5 < (v0.length : Int)) then
    bif decide (0 ≤ v5) then
      bif decide (v5 < (v0.length : Int)) then
        bif decide (0 ≤ v5) then
          bif decide (v5 < (v1.length : Int)) then
            bif (v0.getD v5.toNat 0) != (v1.getD v5.toNat 0) then
              some (.fin (.ret (false, ())))
            else
            some (.next (v0, v1, wi64 (v5 + 1), ()))
          else none
        else none
      else none
    else none
  else
  some (.fin (.out ()))
def flotsamref05_Same_s0 (x : (List Int) × (List Int) × Int × Unit) : Option (SRes (.cons (.sl (.int .u64)) (.cons (.sl (.int .u64)) (.cons cI .nil))) .nil (.cons .bool .nil)) := flotsamref05_Same_s0r x.1 x.2.1 x.2.2.1
def flotsamref05_Same_l0 (x : (List Int) × (List Int) × Int × Unit) : Option (LRes .nil (.cons .bool .nil)) := iterL (h := (.cons (.sl (.int .u64)) (.cons (.sl (.int .u64)) (.cons cI .nil)))) (o := .nil) (r := (.cons .bool .nil)) flotsamref05_Same_s0 9223372036854775808 x
def flotsamref05_Same_r (a0 : List Int) (a1 : List Int) : Option (Bool × Unit) :=
  bif (a0.length : Int) != (a1.length : Int) then
    some (false, ())
  else
  (flotsamref05_Same_l0 (a0, a1, 0, ())).bind fun s1 => match s1 with
  | .out s1 =>
    some (true, ())
  | .ret s1 =>
    some (s1.1, ())
def flotsamref05_Same (x : (List Int) × (List Int) × Unit) : Option (Bool × Unit) := flotsamref05_Same_r x.1 x.2.1
noncomputable def flotsamref05_Same_sm : Sum := ⟨(.cons (.sl (.int .u64)) (.cons (.sl (.int .u64)) .nil)), (.cons (.d .bool) .nil), flotsamref05_Same⟩
noncomputable def flotsamref05_Same_L0 : LoopSum := { hc := ⟨[], [0, 1, 5], [], [], [], [], 112⟩, h := ⟨[(0, (.d (.sl (.int .u64)))), (1, (.d (.sl (.int .u64)))), (5, (.d cI))], [], [], 112⟩, xid := 0, oc := ⟨[], [], [], [], [], [], 112⟩, o := ⟨[], [], [], 112⟩, rc := ⟨[], [4], [], [], [], [], 112⟩, r := ⟨[(4, (.d .bool))], [], [], 112⟩, F := flotsamref05_Same_l0 }
noncomputable def flotsamref05_Same_S : List (Nat × Sum) := []
noncomputable def flotsamref05_Same_fl : List (Nat × Func) := []
noncomputable def flotsamref05_Same_es : List AE := [⟨8, 77, 0, 0, flotsamref05_Same_L0⟩]
theorem flotsamref05_Same_den0 : (fun x => denStep TEv (look1 flotsamref05_Same_S) (look1 flotsamref05_Same_fl) (annOf flotsamref05_Same_es) 8 77 Go.Proofs.Tryd.f77.ntmps 0 (cat (bodyOf Go.Proofs.Tryd.f77) [true, true, false, true, false, false]) flotsamref05_Same_L0 x) = flotsamref05_Same_s0 := by kernel_rfl
theorem flotsamref05_Same_den : (fun x => denFun TEv (look1 flotsamref05_Same_S) (look1 flotsamref05_Same_fl) (annOf flotsamref05_Same_es) 8 77 Go.Proofs.Tryd.f77 flotsamref05_Same_sm.a flotsamref05_Same_sm.r x) = flotsamref05_Same_sm.F := by kernel_rfl
theorem flotsamref05_Same_ok0 : AEok Go.Proofs.Tryd.prog TEv (look1 flotsamref05_Same_S) (look1 flotsamref05_Same_fl) (annOf flotsamref05_Same_es) ⟨8, 77, 0, 0, flotsamref05_Same_L0⟩ := aeok_of 9223372036854775808 Go.Proofs.Tryd.func77 (by kernel_rfl) flotsamref05_Same_den0 (by kernel_rfl)
theorem flotsamref05_Same_sem : SemOf Go.Proofs.Tryd.prog 77 flotsamref05_Same_sm :=
  semMk teOk (sl := flotsamref05_Same_S) (all_nil) (fl := flotsamref05_Same_fl) (all_nil) (es := flotsamref05_Same_es) Go.Proofs.Tryd.func77 (by kernel_rfl) rfl (all_cons flotsamref05_Same_ok0 (all_nil)) rfl flotsamref05_Same_den

/-! ### flotsam/flotsamref07.Same -/
def flotsamref07_Same_s0r (v5 : Int) (c0 : Heap) (c16 : Heap) : Option (SRes (.cons cI (.cons cHeap (.cons cHeap .nil))) .nil (.cons .bool .nil)) :=
  bif decide (v5 < (c0.2.1.length : Int)) then
    bif decide (0 ≤ v5) then
      bif decide (v5 < (c0.2.1.length : Int)) then
        bif decide (0 ≤ v5) then
          bif decide (v5 < (c16.2.1.length : Int)) then
            bif !(((c0.2.1.getD v5.toNat (0, 0, 0, ())).1 == (c16.2.1.getD v5.toNat (0, 0, 0, ())).1) && (((c0.2.1.getD v5.toNat (0, 0, 0, ())).2.1 == (c16.2.1.getD v5.toNat (0, 0, 0, ())).2.1) && (((c0.2.1.getD v5.toNat (0, 0, 0, ())).2.2.1 == (c16.2.1.getD v5.toNat (0, 0, 0, ())).2.2.1) && true))) then
              some (.fin (.ret (false, ())))
            else
            some (.next (wi64 (v5 + 1), c0, c16, ()))
          else none
        else none
      else none
    else none
  else
  some (.fin (.out ()))
def flotsamref07_Same_s0 (x : Int × Heap × Heap × Unit) : Option (SRes (.cons cI (.cons cHeap (.cons cHeap .nil))) .nil (.cons .bool .nil)) := flotsamref07_Same_s0r x.1 x.2.1 x.2.2.1
def flotsamref07_Same_l0 (x : Int × Heap × Heap × Unit) : Option (LRes .nil (.cons .bool .nil)) := iterL (h := (.cons cI (.cons cHeap (.cons cHeap .nil)))) (o := .nil) (r := (.cons .bool .nil)) flotsamref07_Same_s0 9223372036854775808 x
def flotsamref07_Same_r (a0 : Heap) (a1 : Heap) : Option (Bool × Unit) :=
  bif !(a0.2.2.1 == a1.2.2.1) then
    some (false, ())
  else
  bif (a0.2.1.length : Int) != (a1.2.1.length : Int) then
    some (false, ())
  else
  (flotsamref05_Same (a0.1, a1.1, ())).bind fun y1 =>
  bif !y1.1 then
    some (false, ())
  else
  (flotsamref07_Same_l0 (0, a0, a1, ())).bind fun s2 => match s2 with
  | .out s2 =>
    some (true, ())
  | .ret s2 =>
    some (s2.1, ())
def flotsamref07_Same (x : Heap × Heap × Unit) : Option (Bool × Unit) := flotsamref07_Same_r x.1 x.2.1
noncomputable def flotsamref07_Same_sm : Sum := ⟨(.cons cHeap (.cons cHeap .nil)), (.cons (.d .bool) .nil), flotsamref07_Same⟩
noncomputable def flotsamref07_Same_L0 : LoopSum := { hc := ⟨[], [2, 3, 5], [], [], [0, 16], [], 416⟩, h := ⟨[(2, (.pvar 0 [])), (3, (.pvar 16 [])), (5, (.d cI))], [(0, (.d cHeap)), (16, (.d cHeap))], [], 416⟩, xid := 0, oc := ⟨[], [], [], [], [], [], 416⟩, o := ⟨[], [], [], 416⟩, rc := ⟨[], [4], [], [], [], [], 416⟩, r := ⟨[(4, (.d .bool))], [], [], 416⟩, F := flotsamref07_Same_l0 }
noncomputable def flotsamref07_Same_S : List (Nat × Sum) := [(77, flotsamref05_Same_sm)]
noncomputable def flotsamref07_Same_fl : List (Nat × Func) := []
noncomputable def flotsamref07_Same_es : List AE := [⟨8, 31, 0, 0, flotsamref07_Same_L0⟩]
theorem flotsamref07_Same_den0 : (fun x => denStep TEv (look1 flotsamref07_Same_S) (look1 flotsamref07_Same_fl) (annOf flotsamref07_Same_es) 8 31 Go.Proofs.Tryd.f31.ntmps 0 (cat (bodyOf Go.Proofs.Tryd.f31) [true, true, false, true, false, false]) flotsamref07_Same_L0 x) = flotsamref07_Same_s0 := by kernel_rfl
theorem flotsamref07_Same_den : (fun x => denFun TEv (look1 flotsamref07_Same_S) (look1 flotsamref07_Same_fl) (annOf flotsamref07_Same_es) 8 31 Go.Proofs.Tryd.f31 flotsamref07_Same_sm.a flotsamref07_Same_sm.r x) = flotsamref07_Same_sm.F := by kernel_rfl
theorem flotsamref07_Same_ok0 : AEok Go.Proofs.Tryd.prog TEv (look1 flotsamref07_Same_S) (look1 flotsamref07_Same_fl) (annOf flotsamref07_Same_es) ⟨8, 31, 0, 0, flotsamref07_Same_L0⟩ := aeok_of 9223372036854775808 Go.Proofs.Tryd.func31 (by kernel_rfl) flotsamref07_Same_den0 (by kernel_rfl)
theorem flotsamref07_Same_sem : SemOf Go.Proofs.Tryd.prog 31 flotsamref07_Same_sm :=
  semMk teOk (sl := flotsamref07_Same_S) (all_cons flotsamref05_Same_sem all_nil) (fl := flotsamref07_Same_fl) (all_nil) (es := flotsamref07_Same_es) Go.Proofs.Tryd.func31 (by kernel_rfl) rfl (all_cons flotsamref07_Same_ok0 (all_nil)) rfl flotsamref07_Same_den

/-! ### flotsam/arena.New -/
def arena_New_r (a0 : Int) : Option ((List Int) × Int × Unit) :=
  bif decide (a0 < 1) then
    some ([], 1, ())
  else
  bif decide (a0 > 16) then
    some ([], 1, ())
  else
  bif (wi64 (a0 * 32)) == (wi64 (a0 * 32)) then
    bif decide (0 ≤ (wi64 (a0 * 32))) then
      bif decide ((wi64 (a0 * 32)).toNat * 8 ≤ 140737488355328) then
        some (List.replicate (wi64 (a0 * 32)).toNat 0, 0, ())
      else none
    else none
  else none
def arena_New (x : Int × Unit) : Option ((List Int) × Int × Unit) := arena_New_r x.1
noncomputable def arena_New_sm : Sum := ⟨(.cons cI .nil), (.cons (.own (.int .u64)) (.cons (.d cI) .nil)), arena_New⟩
noncomputable def arena_New_S : List (Nat × Sum) := []
noncomputable def arena_New_fl : List (Nat × Func) := []
noncomputable def arena_New_es : List AE := []
theorem arena_New_den : (fun x => denFun TEv (look1 arena_New_S) (look1 arena_New_fl) (annOf arena_New_es) 8 93 Go.Proofs.Tryd.f93 arena_New_sm.a arena_New_sm.r x) = arena_New_sm.F := by kernel_rfl
theorem arena_New_sem : SemOf Go.Proofs.Tryd.prog 93 arena_New_sm :=
  semMk teOk (sl := arena_New_S) (all_nil) (fl := arena_New_fl) (all_nil) (es := arena_New_es) Go.Proofs.Tryd.func93 (by kernel_rfl) rfl (all_nil) rfl arena_New_den

/-! ### flotsam/heap.New -/
def heap_New_r (a0 : Int) : Option (Heap × Int × Unit) :=
  (arena_New (a0, ())).bind fun y1 =>
  bif y1.2.1 != 0 then
    some (([], [], false, ()), y1.2.1, ())
  else
  bif a0 == a0 then
    bif decide (0 ≤ a0) then
      bif decide (a0.toNat * 24 ≤ 140737488355328) then
        some ((y1.1, List.replicate a0.toNat (0, 0, 0, ()), false, ()), 0, ())
      else none
    else none
  else none
def heap_New (x : Int × Unit) : Option (Heap × Int × Unit) := heap_New_r x.1
noncomputable def heap_New_sm : Sum := ⟨(.cons cI .nil), (.cons (.cons (.own (.int .u64)) (.cons (.own cSpan) (.cons (.d .bool) .nil))) (.cons (.d cI) .nil)), heap_New⟩
noncomputable def heap_New_S : List (Nat × Sum) := [(93, arena_New_sm)]
noncomputable def heap_New_fl : List (Nat × Func) := []
noncomputable def heap_New_es : List AE := []
theorem heap_New_den : (fun x => denFun TEv (look1 heap_New_S) (look1 heap_New_fl) (annOf heap_New_es) 8 44 Go.Proofs.Tryd.f44 heap_New_sm.a heap_New_sm.r x) = heap_New_sm.F := by kernel_rfl
theorem heap_New_sem : SemOf Go.Proofs.Tryd.prog 44 heap_New_sm :=
  semMk teOk (sl := heap_New_S) (all_cons arena_New_sem all_nil) (fl := heap_New_fl) (all_nil) (es := heap_New_es) Go.Proofs.Tryd.func44 (by kernel_rfl) rfl (all_nil) rfl heap_New_den

/-! ### flotsam/class.is -/
def class_is_r (a0 : Int) : Option (Bool × Unit) :=
  bif decide (a0 ≥ 0) then
    some (decide (a0 < 4), ())
  else
  some (false, ())
def class_is (x : Int × Unit) : Option (Bool × Unit) := class_is_r x.1
noncomputable def class_is_sm : Sum := ⟨(.cons cI .nil), (.cons (.d .bool) .nil), class_is⟩
noncomputable def class_is_S : List (Nat × Sum) := []
noncomputable def class_is_fl : List (Nat × Func) := []
noncomputable def class_is_es : List AE := []
theorem class_is_den : (fun x => denFun TEv (look1 class_is_S) (look1 class_is_fl) (annOf class_is_es) 8 152 Go.Proofs.Tryd.f152 class_is_sm.a class_is_sm.r x) = class_is_sm.F := by kernel_rfl
theorem class_is_sem : SemOf Go.Proofs.Tryd.prog 152 class_is_sm :=
  semMk teOk (sl := class_is_S) (all_nil) (fl := class_is_fl) (all_nil) (es := class_is_es) Go.Proofs.Tryd.func152 (by kernel_rfl) rfl (all_nil) rfl class_is_den

/-! ### flotsam/class.Blocks -/
def class_Blocks_r (a0 : Int) : Option (Int × Unit) :=
  (class_is (a0, ())).bind fun y1 =>
  bif !y1.1 then
    some (0, ())
  else
  bif decide (0 ≤ a0) then
    bif decide (a0 < 4) then
      bif (([2, 4, 8, 16] : List Int).getD a0.toNat 0) == 0 then none else
      some (wi64 ((32 : Int).tdiv (([2, 4, 8, 16] : List Int).getD a0.toNat 0)), ())
    else none
  else none
def class_Blocks (x : Int × Unit) : Option (Int × Unit) := class_Blocks_r x.1
noncomputable def class_Blocks_sm : Sum := ⟨(.cons cI .nil), (.cons (.d cI) .nil), class_Blocks⟩
noncomputable def class_Blocks_S : List (Nat × Sum) := [(152, class_is_sm)]
noncomputable def class_Blocks_fl : List (Nat × Func) := []
noncomputable def class_Blocks_es : List AE := []
theorem class_Blocks_den : (fun x => denFun TEv (look1 class_Blocks_S) (look1 class_Blocks_fl) (annOf class_Blocks_es) 8 147 Go.Proofs.Tryd.f147 class_Blocks_sm.a class_Blocks_sm.r x) = class_Blocks_sm.F := by kernel_rfl
theorem class_Blocks_sem : SemOf Go.Proofs.Tryd.prog 147 class_Blocks_sm :=
  semMk teOk (sl := class_Blocks_S) (all_cons class_is_sem all_nil) (fl := class_Blocks_fl) (all_nil) (es := class_Blocks_es) Go.Proofs.Tryd.func147 (by kernel_rfl) rfl (all_nil) rfl class_Blocks_den

/-! ### flotsam/span.inUse -/
def span_inUse_r (a0 : Span) : Option (Bool × Unit) :=
  bif a0.1 == 1 then
    some (true, ())
  else
  some (a0.1 == 2, ())
def span_inUse (x : Span × Unit) : Option (Bool × Unit) := span_inUse_r x.1
noncomputable def span_inUse_sm : Sum := ⟨(.cons cSpan .nil), (.cons (.d .bool) .nil), span_inUse⟩
noncomputable def span_inUse_S : List (Nat × Sum) := []
noncomputable def span_inUse_fl : List (Nat × Func) := []
noncomputable def span_inUse_es : List AE := []
theorem span_inUse_den : (fun x => denFun TEv (look1 span_inUse_S) (look1 span_inUse_fl) (annOf span_inUse_es) 8 149 Go.Proofs.Tryd.f149 span_inUse_sm.a span_inUse_sm.r x) = span_inUse_sm.F := by kernel_rfl
theorem span_inUse_sem : SemOf Go.Proofs.Tryd.prog 149 span_inUse_sm :=
  semMk teOk (sl := span_inUse_S) (all_nil) (fl := span_inUse_fl) (all_nil) (es := span_inUse_es) Go.Proofs.Tryd.func149 (by kernel_rfl) rfl (all_nil) rfl span_inUse_den

/-! ### flotsam/bits.one -/
def bits_one_r (a0 : Int) : Option (Int × Unit) :=
  bif decide (a0 < 0) then
    some (0, ())
  else
  bif decide (a0 ≥ 32) then
    some (0, ())
  else
  bif decide (a0 < 0) then none else
  some (shiftI true .u32 1 a0, ())
def bits_one (x : Int × Unit) : Option (Int × Unit) := bits_one_r x.1
noncomputable def bits_one_sm : Sum := ⟨(.cons cI .nil), (.cons (.d (.int .u32)) .nil), bits_one⟩
noncomputable def bits_one_S : List (Nat × Sum) := []
noncomputable def bits_one_fl : List (Nat × Func) := []
noncomputable def bits_one_es : List AE := []
theorem bits_one_den : (fun x => denFun TEv (look1 bits_one_S) (look1 bits_one_fl) (annOf bits_one_es) 8 170 Go.Proofs.Tryd.f170 bits_one_sm.a bits_one_sm.r x) = bits_one_sm.F := by kernel_rfl
theorem bits_one_sem : SemOf Go.Proofs.Tryd.prog 170 bits_one_sm :=
  semMk teOk (sl := bits_one_S) (all_nil) (fl := bits_one_fl) (all_nil) (es := bits_one_es) Go.Proofs.Tryd.func170 (by kernel_rfl) rfl (all_nil) rfl bits_one_den

/-! ### flotsam/bits.Whole -/
def bits_Whole_r (a0 : Int) : Option (Int × Unit) :=
  bif decide (a0 ≥ 32) then
    some (4294967295, ())
  else
  (bits_one (bif decide (a0 < 0) then 0 else a0, ())).bind fun y1 =>
  some (wu32 (y1.1 - 1), ())
def bits_Whole (x : Int × Unit) : Option (Int × Unit) := bits_Whole_r x.1
noncomputable def bits_Whole_sm : Sum := ⟨(.cons cI .nil), (.cons (.d (.int .u32)) .nil), bits_Whole⟩
noncomputable def bits_Whole_S : List (Nat × Sum) := [(170, bits_one_sm)]
noncomputable def bits_Whole_fl : List (Nat × Func) := []
noncomputable def bits_Whole_es : List AE := []
theorem bits_Whole_den : (fun x => denFun TEv (look1 bits_Whole_S) (look1 bits_Whole_fl) (annOf bits_Whole_es) 8 168 Go.Proofs.Tryd.f168 bits_Whole_sm.a bits_Whole_sm.r x) = bits_Whole_sm.F := by kernel_rfl
theorem bits_Whole_sem : SemOf Go.Proofs.Tryd.prog 168 bits_Whole_sm :=
  semMk teOk (sl := bits_Whole_S) (all_cons bits_one_sem all_nil) (fl := bits_Whole_fl) (all_nil) (es := bits_Whole_es) Go.Proofs.Tryd.func168 (by kernel_rfl) rfl (all_nil) rfl bits_Whole_den

/-! ### flotsam/span.whole -/
def span_whole_r (a0 : Int) : Option (Int × Unit) :=
  (class_Blocks (a0, ())).bind fun y1 =>
  (bits_Whole (y1.1, ())).bind fun y2 =>
  some (y2.1, ())
def span_whole (x : Int × Unit) : Option (Int × Unit) := span_whole_r x.1
noncomputable def span_whole_sm : Sum := ⟨(.cons cI .nil), (.cons (.d (.int .u32)) .nil), span_whole⟩
noncomputable def span_whole_S : List (Nat × Sum) := [(147, class_Blocks_sm), (168, bits_Whole_sm)]
noncomputable def span_whole_fl : List (Nat × Func) := []
noncomputable def span_whole_es : List AE := []
theorem span_whole_den : (fun x => denFun TEv (look1 span_whole_S) (look1 span_whole_fl) (annOf span_whole_es) 8 150 Go.Proofs.Tryd.f150 span_whole_sm.a span_whole_sm.r x) = span_whole_sm.F := by kernel_rfl
theorem span_whole_sem : SemOf Go.Proofs.Tryd.prog 150 span_whole_sm :=
  semMk teOk (sl := span_whole_S) (all_cons class_Blocks_sem (all_cons bits_Whole_sem all_nil)) (fl := span_whole_fl) (all_nil) (es := span_whole_es) Go.Proofs.Tryd.func150 (by kernel_rfl) rfl (all_nil) rfl span_whole_den

/-! ### flotsam/span.Right -/
def span_Right_r (a0 : Span) : Option (Bool × Unit) :=
  bif a0.1 == 0 then
    some ((a0.1 == 0) && ((a0.2.1 == 0) && ((a0.2.2.1 == 0) && true)), ())
  else
  (span_inUse (a0, ())).bind fun y1 =>
  bif y1.1 then
    (class_Blocks (a0.2.1, ())).bind fun y2 =>
    bif decide (y2.1 > 0) then
      (span_whole (a0.2.1, ())).bind fun y3 =>
      some ((bitsI .andNot .u32 a0.2.2.1 y3.1) == 0, ())
    else
    some (false, ())
  else
  some (false, ())
def span_Right (x : Span × Unit) : Option (Bool × Unit) := span_Right_r x.1
noncomputable def span_Right_sm : Sum := ⟨(.cons cSpan .nil), (.cons (.d .bool) .nil), span_Right⟩
noncomputable def span_Right_S : List (Nat × Sum) := [(147, class_Blocks_sm), (149, span_inUse_sm), (150, span_whole_sm)]
noncomputable def span_Right_fl : List (Nat × Func) := []
noncomputable def span_Right_es : List AE := []
theorem span_Right_den : (fun x => denFun TEv (look1 span_Right_S) (look1 span_Right_fl) (annOf span_Right_es) 8 96 Go.Proofs.Tryd.f96 span_Right_sm.a span_Right_sm.r x) = span_Right_sm.F := by kernel_rfl
theorem span_Right_sem : SemOf Go.Proofs.Tryd.prog 96 span_Right_sm :=
  semMk teOk (sl := span_Right_S) (all_cons class_Blocks_sem (all_cons span_inUse_sem (all_cons span_whole_sem all_nil))) (fl := span_Right_fl) (all_nil) (es := span_Right_es) Go.Proofs.Tryd.func96 (by kernel_rfl) rfl (all_nil) rfl span_Right_den

/-! ### flotsam/heap.Form$1 -/
def heap_Form_1_r (a0 : Span) : Option (Bool × Unit) :=
  (span_Right (a0, ())).bind fun y1 =>
  some (!y1.1, ())
def heap_Form_1 (x : Span × Unit) : Option (Bool × Unit) := heap_Form_1_r x.1
noncomputable def heap_Form_1_sm : Sum := ⟨(.cons cSpan .nil), (.cons (.d .bool) .nil), heap_Form_1⟩
noncomputable def heap_Form_1_S : List (Nat × Sum) := [(96, span_Right_sm)]
noncomputable def heap_Form_1_fl : List (Nat × Func) := []
noncomputable def heap_Form_1_es : List AE := []
theorem heap_Form_1_den : (fun x => denFun TEv (look1 heap_Form_1_S) (look1 heap_Form_1_fl) (annOf heap_Form_1_es) 8 95 Go.Proofs.Tryd.f95 heap_Form_1_sm.a heap_Form_1_sm.r x) = heap_Form_1_sm.F := by kernel_rfl
theorem heap_Form_1_sem : SemOf Go.Proofs.Tryd.prog 95 heap_Form_1_sm :=
  semMk teOk (sl := heap_Form_1_S) (all_cons span_Right_sem all_nil) (fl := heap_Form_1_fl) (all_nil) (es := heap_Form_1_es) Go.Proofs.Tryd.func95 (by kernel_rfl) rfl (all_nil) rfl heap_Form_1_den

/-! ### flotsam/heap.Form -/
def heap_Form_s0r (v0 : List Span) (v7 : Int) (v8 : Int) (c0 : Heap) : Option (SRes (.cons (.sl cSpan) (.cons cI (.cons cI (.cons cHeap .nil)))) (.cons cHeap .nil) (.cons cI (.cons cHeap .nil))) :=
  bif decide (v8 < v7) then
    bif decide (0 ≤ v8) then
      bif decide (v8 < (v0.length : Int)) then
        (heap_Form_1 (v0.getD v8.toNat (0, 0, 0, ()), ())).bind fun y1 =>
        bif y1.1 then
          some (.fin (.ret (v8, c0, ())))
        else
        some (.next (v0, v7, wi64 (v8 + 1), c0, ()))
      else none
    else none
  else
  some (.fin (.out (c0, ())))
def heap_Form_s0 (x : (List Span) × Int × Int × Heap × Unit) : Option (SRes (.cons (.sl cSpan) (.cons cI (.cons cI (.cons cHeap .nil)))) (.cons cHeap .nil) (.cons cI (.cons cHeap .nil))) := heap_Form_s0r x.1 x.2.1 x.2.2.1 x.2.2.2.1
def heap_Form_l0 (x : (List Span) × Int × Int × Heap × Unit) : Option (LRes (.cons cHeap .nil) (.cons cI (.cons cHeap .nil))) := iterL (h := (.cons (.sl cSpan) (.cons cI (.cons cI (.cons cHeap .nil))))) (o := (.cons cHeap .nil)) (r := (.cons cI (.cons cHeap .nil))) heap_Form_s0 9223372036854775808 x
def heap_Form_r (a0 : Heap) : Option (Bool × Unit) :=
  (heap_Form_l0 (a0.2.1, (a0.2.1.length : Int), 0, a0, ())).bind fun s2 => match s2 with
  | .out s2 =>
    bif decide ((s2.1.2.1.length : Int) ≥ 1) then
      bif decide ((s2.1.2.1.length : Int) ≤ 16) then
        some ((s2.1.1.length : Int) == (wi64 (32 * (s2.1.2.1.length : Int))), ())
      else
      some (false, ())
    else
    some (false, ())
  | .ret s2 =>
    bif !(decide (s2.1 ≥ 0)) then
      bif decide ((s2.2.1.2.1.length : Int) ≥ 1) then
        bif decide ((s2.2.1.2.1.length : Int) ≤ 16) then
          some ((s2.2.1.1.length : Int) == (wi64 (32 * (s2.2.1.2.1.length : Int))), ())
        else
        some (false, ())
      else
      some (false, ())
    else
    some (false, ())
def heap_Form (x : Heap × Unit) : Option (Bool × Unit) := heap_Form_r x.1
noncomputable def heap_Form_sm : Sum := ⟨(.cons cHeap .nil), (.cons (.d .bool) .nil), heap_Form⟩
noncomputable def heap_Form_L0 : LoopSum := { hc := ⟨[], [0, 1, 7, 8], [], [], [0], [], 256⟩, h := ⟨[(0, (.d (.sl cSpan))), (1, (.fn 95 .nil .nil)), (7, (.d cI)), (8, (.d cI))], [(0, (.d cHeap))], [], 256⟩, xid := 0, oc := ⟨[], [], [], [], [0], [], 256⟩, o := ⟨[], [(0, (.d cHeap))], [], 256⟩, rc := ⟨[], [4], [], [], [0], [], 256⟩, r := ⟨[(4, (.d cI))], [(0, (.d cHeap))], [], 256⟩, F := heap_Form_l0 }
noncomputable def heap_Form_S : List (Nat × Sum) := [(95, heap_Form_1_sm)]
noncomputable def heap_Form_fl : List (Nat × Func) := [(94, Go.Proofs.Tryd.f94), (148, Go.Proofs.Tryd.f148)]
noncomputable def heap_Form_es : List AE := [⟨6, 148, 192, 0, heap_Form_L0⟩]
theorem heap_Form_den0 : (fun x => denStep TEv (look1 heap_Form_S) (look1 heap_Form_fl) (annOf heap_Form_es) 6 148 Go.Proofs.Tryd.f148.ntmps 192 (cat (bodyOf Go.Proofs.Tryd.f148) [true, false, true, false, false]) heap_Form_L0 x) = heap_Form_s0 := by kernel_rfl
theorem heap_Form_den : (fun x => denFun TEv (look1 heap_Form_S) (look1 heap_Form_fl) (annOf heap_Form_es) 8 46 Go.Proofs.Tryd.f46 heap_Form_sm.a heap_Form_sm.r x) = heap_Form_sm.F := by kernel_rfl
theorem heap_Form_ok0 : AEok Go.Proofs.Tryd.prog TEv (look1 heap_Form_S) (look1 heap_Form_fl) (annOf heap_Form_es) ⟨6, 148, 192, 0, heap_Form_L0⟩ := aeok_of 9223372036854775808 Go.Proofs.Tryd.func148 (by kernel_rfl) heap_Form_den0 (by kernel_rfl)
theorem heap_Form_sem : SemOf Go.Proofs.Tryd.prog 46 heap_Form_sm :=
  semMk teOk (sl := heap_Form_S) (all_cons heap_Form_1_sem all_nil) (fl := heap_Form_fl) (all_cons ⟨Go.Proofs.Tryd.func94, by kernel_rfl⟩ (all_cons ⟨Go.Proofs.Tryd.func148, by kernel_rfl⟩ (all_nil))) (es := heap_Form_es) Go.Proofs.Tryd.func46 (by kernel_rfl) rfl (all_cons heap_Form_ok0 (all_nil)) rfl heap_Form_den

/-! ### flotsam/heap.page -/
def heap_page_r (a0 : Heap) (a1 : Int) : Option (Span × Bool × Unit) :=
  bif decide (a1 < 0) then
    some ((0, 0, 0, ()), false, ())
  else
  bif decide (a1 ≥ (a0.2.1.length : Int)) then
    some ((0, 0, 0, ()), false, ())
  else
  bif decide (0 ≤ a1) then
    bif decide (a1 < (a0.2.1.length : Int)) then
      some (a0.2.1.getD a1.toNat (0, 0, 0, ()), true, ())
    else none
  else none
def heap_page (x : Heap × Int × Unit) : Option (Span × Bool × Unit) := heap_page_r x.1 x.2.1
noncomputable def heap_page_sm : Sum := ⟨(.cons cHeap (.cons cI .nil)), (.cons (.d cSpan) (.cons (.d .bool) .nil)), heap_page⟩
noncomputable def heap_page_S : List (Nat × Sum) := []
noncomputable def heap_page_fl : List (Nat × Func) := []
noncomputable def heap_page_es : List AE := []
theorem heap_page_den : (fun x => denFun TEv (look1 heap_page_S) (look1 heap_page_fl) (annOf heap_page_es) 8 97 Go.Proofs.Tryd.f97 heap_page_sm.a heap_page_sm.r x) = heap_page_sm.F := by kernel_rfl
theorem heap_page_sem : SemOf Go.Proofs.Tryd.prog 97 heap_page_sm :=
  semMk teOk (sl := heap_page_S) (all_nil) (fl := heap_page_fl) (all_nil) (es := heap_page_es) Go.Proofs.Tryd.func97 (by kernel_rfl) rfl (all_nil) rfl heap_page_den

/-! ### flotsam/class.Words -/
def class_Words_r (a0 : Int) : Option (Int × Unit) :=
  (class_is (a0, ())).bind fun y1 =>
  bif !y1.1 then
    some (0, ())
  else
  bif decide (0 ≤ a0) then
    bif decide (a0 < 4) then
      some (([2, 4, 8, 16] : List Int).getD a0.toNat 0, ())
    else none
  else none
def class_Words (x : Int × Unit) : Option (Int × Unit) := class_Words_r x.1
noncomputable def class_Words_sm : Sum := ⟨(.cons cI .nil), (.cons (.d cI) .nil), class_Words⟩
noncomputable def class_Words_S : List (Nat × Sum) := [(152, class_is_sm)]
noncomputable def class_Words_fl : List (Nat × Func) := []
noncomputable def class_Words_es : List AE := []
theorem class_Words_den : (fun x => denFun TEv (look1 class_Words_S) (look1 class_Words_fl) (annOf class_Words_es) 8 102 Go.Proofs.Tryd.f102 class_Words_sm.a class_Words_sm.r x) = class_Words_sm.F := by kernel_rfl
theorem class_Words_sem : SemOf Go.Proofs.Tryd.prog 102 class_Words_sm :=
  semMk teOk (sl := class_Words_S) (all_cons class_is_sem all_nil) (fl := class_Words_fl) (all_nil) (es := class_Words_es) Go.Proofs.Tryd.func102 (by kernel_rfl) rfl (all_nil) rfl class_Words_den

/-! ### flotsam/arena.Place -/
def arena_Place_r (a0 : Int) (a1 : Int) : Option (Int × Int × Bool × Unit) :=
  (class_Words (a0, ())).bind fun y1 =>
  bif y1.1 == 0 then
    some (0, 0, false, ())
  else
  bif decide (a1 < 0) then
    some (0, 0, false, ())
  else
  bif decide (a1 ≥ 512) then
    some (0, 0, false, ())
  else
  bif y1.1 == 0 then none else
  bif (a1.tmod y1.1) != 0 then
    some (0, 0, false, ())
  else
  bif y1.1 == 0 then none else
  some (wi64 (a1.tdiv 32), wi64 ((a1.tmod 32).tdiv y1.1), true, ())
def arena_Place (x : Val) : Option (Int × Int × Bool × Unit) := arena_Place_r x.1 x.2.1
noncomputable def arena_Place_sm : Sum := ⟨cVal, (.cons (.d cI) (.cons (.d cI) (.cons (.d .bool) .nil))), arena_Place⟩
noncomputable def arena_Place_S : List (Nat × Sum) := [(102, class_Words_sm)]
noncomputable def arena_Place_fl : List (Nat × Func) := []
noncomputable def arena_Place_es : List AE := []
theorem arena_Place_den : (fun x => denFun TEv (look1 arena_Place_S) (look1 arena_Place_fl) (annOf arena_Place_es) 8 98 Go.Proofs.Tryd.f98 arena_Place_sm.a arena_Place_sm.r x) = arena_Place_sm.F := by kernel_rfl
theorem arena_Place_sem : SemOf Go.Proofs.Tryd.prog 98 arena_Place_sm :=
  semMk teOk (sl := arena_Place_S) (all_cons class_Words_sem all_nil) (fl := arena_Place_fl) (all_nil) (es := arena_Place_es) Go.Proofs.Tryd.func98 (by kernel_rfl) rfl (all_nil) rfl arena_Place_den

/-! ### flotsam/heap.Find -/
def heap_Find_r (a0 : Heap) (a1 : Int) : Option (Int × Int × Bool × Unit) :=
  (heap_page (a0, wi64 (a1.tdiv 32), ())).bind fun y1 =>
  bif decide (a1 < 0) then
    some (0, 0, false, ())
  else
  bif !y1.2.1 then
    some (0, 0, false, ())
  else
  bif y1.1.1 == 0 then
    some (0, 0, false, ())
  else
  (arena_Place (y1.1.2.1, a1, ())).bind fun y2 =>
  some (y2.1, y2.2.1, y2.2.2.1, ())
def heap_Find (x : Heap × Int × Unit) : Option (Int × Int × Bool × Unit) := heap_Find_r x.1 x.2.1
noncomputable def heap_Find_sm : Sum := ⟨(.cons cHeap (.cons cI .nil)), (.cons (.d cI) (.cons (.d cI) (.cons (.d .bool) .nil))), heap_Find⟩
noncomputable def heap_Find_S : List (Nat × Sum) := [(97, heap_page_sm), (98, arena_Place_sm)]
noncomputable def heap_Find_fl : List (Nat × Func) := []
noncomputable def heap_Find_es : List AE := []
theorem heap_Find_den : (fun x => denFun TEv (look1 heap_Find_S) (look1 heap_Find_fl) (annOf heap_Find_es) 8 47 Go.Proofs.Tryd.f47 heap_Find_sm.a heap_Find_sm.r x) = heap_Find_sm.F := by kernel_rfl
theorem heap_Find_sem : SemOf Go.Proofs.Tryd.prog 47 heap_Find_sm :=
  semMk teOk (sl := heap_Find_S) (all_cons heap_page_sem (all_cons arena_Place_sem all_nil)) (fl := heap_Find_fl) (all_nil) (es := heap_Find_es) Go.Proofs.Tryd.func47 (by kernel_rfl) rfl (all_nil) rfl heap_Find_den
end Go.Proofs.YtdfhopakojmjkaaDoor.Dfk
