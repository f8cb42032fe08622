/- What functions come to. Printed by a program of this session. -/
import Derived.Test.YtdiogegolnoeoaaDoorDenFw
namespace Go.Proofs.YtdiogegolnoeoaaDoor.Den
open Go
set_option maxRecDepth 100000
set_option linter.unusedVariables false
/-! ### flotsam/flotsamref08.Ints -/
def flotsamref08_Ints_s0r (v0 : List Int) (v1 : List Int) (v5 : Int) : Option (SRes (.cons (.sl cI) (.cons (.sl cI) (.cons cI .nil))) .nil (.cons .bool .nil)) :=
  bif decide (v5 < (v0.length : Int)) then
    bif decide (0 ≤ v5) then
      bif decide (v5 < (v0.length : Int)) then
        bif decide (0 ≤ v5) then
          bif decide (v5 < (v1.length : Int)) then
            bif (v0.getD v5.toNat 0) != (v1.getD v5.toNat 0) then
              some (.fin (.ret (false, ())))
            else
            some (.next (v0, v1, wi64 (v5 + 1), ()))
          else none
        else none
      else none
    else none
  else
  some (.fin (.out ()))
def flotsamref08_Ints_s0 (x : (List Int) × (List Int) × Int × Unit) : Option (SRes (.cons (.sl cI) (.cons (.sl cI) (.cons cI .nil))) .nil (.cons .bool .nil)) := flotsamref08_Ints_s0r x.1 x.2.1 x.2.2.1
def flotsamref08_Ints_l0 (x : (List Int) × (List Int) × Int × Unit) : Option (LRes .nil (.cons .bool .nil)) := iterL (h := (.cons (.sl cI) (.cons (.sl cI) (.cons cI .nil)))) (o := .nil) (r := (.cons .bool .nil)) flotsamref08_Ints_s0 9223372036854775808 x
def flotsamref08_Ints_r (a0 : List Int) (a1 : List Int) : Option (Bool × Unit) :=
  bif (a0.length : Int) != (a1.length : Int) then
    some (false, ())
  else
  (flotsamref08_Ints_l0 (a0, a1, 0, ())).bind fun s1 => match s1 with
  | .out s1 =>
    some (true, ())
  | .ret s1 =>
    some (s1.1, ())
def flotsamref08_Ints (x : (List Int) × (List Int) × Unit) : Option (Bool × Unit) := flotsamref08_Ints_r x.1 x.2.1
noncomputable def flotsamref08_Ints_sm : Sum := ⟨(.cons (.sl cI) (.cons (.sl cI) .nil)), (.cons (.d .bool) .nil), flotsamref08_Ints⟩
noncomputable def flotsamref08_Ints_L0 : LoopSum := { hc := ⟨[], [0, 1, 5], [], [], [], [], 112⟩, h := ⟨[(0, (.d (.sl cI))), (1, (.d (.sl cI))), (5, (.d cI))], [], [], 112⟩, xid := 0, oc := ⟨[], [], [], [], [], [], 112⟩, o := ⟨[], [], [], 112⟩, rc := ⟨[], [4], [], [], [], [], 112⟩, r := ⟨[(4, (.d .bool))], [], [], 112⟩, F := flotsamref08_Ints_l0 }
noncomputable def flotsamref08_Ints_S : List (Nat × Sum) := []
noncomputable def flotsamref08_Ints_fl : List (Nat × Func) := []
noncomputable def flotsamref08_Ints_es : List AE := [⟨8, 16, 0, 0, flotsamref08_Ints_L0⟩]
theorem flotsamref08_Ints_den0 : (fun x => denStep TEv (look1 flotsamref08_Ints_S) (look1 flotsamref08_Ints_fl) (annOf flotsamref08_Ints_es) 8 16 Go.Proofs.Tryd.f16.ntmps 0 (cat (bodyOf Go.Proofs.Tryd.f16) [true, true, false, true, false, false]) flotsamref08_Ints_L0 x) = flotsamref08_Ints_s0 := by kernel_rfl
theorem flotsamref08_Ints_den : (fun x => denFun TEv (look1 flotsamref08_Ints_S) (look1 flotsamref08_Ints_fl) (annOf flotsamref08_Ints_es) 8 16 Go.Proofs.Tryd.f16 flotsamref08_Ints_sm.a flotsamref08_Ints_sm.r x) = flotsamref08_Ints_sm.F := by kernel_rfl
theorem flotsamref08_Ints_ok0 : AEok Go.Proofs.Tryd.prog TEv (look1 flotsamref08_Ints_S) (look1 flotsamref08_Ints_fl) (annOf flotsamref08_Ints_es) ⟨8, 16, 0, 0, flotsamref08_Ints_L0⟩ := aeok_of 9223372036854775808 Go.Proofs.Tryd.func16 (by kernel_rfl) flotsamref08_Ints_den0 (by kernel_rfl)
theorem flotsamref08_Ints_sem : SemOf Go.Proofs.Tryd.prog 16 flotsamref08_Ints_sm :=
  semMk teOk (sl := flotsamref08_Ints_S) (all_nil) (fl := flotsamref08_Ints_fl) (all_nil) (es := flotsamref08_Ints_es) Go.Proofs.Tryd.func16 (by kernel_rfl) rfl (rng_none (by kernel_rfl) (by kernel_rfl)) (all_cons flotsamref08_Ints_ok0 (all_nil)) rfl flotsamref08_Ints_den

/-! ### flotsam/flotsamref08.In -/
def flotsamref08_In_s0r (v0 : List Int) (v1 : Int) (v5 : Int) : Option (SRes (.cons (.sl cI) cVal) .nil (.cons .bool .nil)) :=
  bif decide (v5 < (v0.length : Int)) then
    bif decide (0 ≤ v5) then
      bif decide (v5 < (v0.length : Int)) then
        bif (v0.getD v5.toNat 0) == v1 then
          some (.fin (.ret (true, ())))
        else
        some (.next (v0, v1, wi64 (v5 + 1), ()))
      else none
    else none
  else
  some (.fin (.out ()))
def flotsamref08_In_s0 (x : (List Int) × Val) : Option (SRes (.cons (.sl cI) cVal) .nil (.cons .bool .nil)) := flotsamref08_In_s0r x.1 x.2.1 x.2.2.1
def flotsamref08_In_l0 (x : (List Int) × Val) : Option (LRes .nil (.cons .bool .nil)) := iterL (h := (.cons (.sl cI) cVal)) (o := .nil) (r := (.cons .bool .nil)) flotsamref08_In_s0 9223372036854775808 x
def flotsamref08_In_r (a0 : List Int) (a1 : Int) : Option (Bool × Unit) :=
  (flotsamref08_In_l0 (a0, a1, 0, ())).bind fun s1 => match s1 with
  | .out s1 =>
    some (false, ())
  | .ret s1 =>
    some (s1.1, ())
def flotsamref08_In (x : (List Int) × Int × Unit) : Option (Bool × Unit) := flotsamref08_In_r x.1 x.2.1
noncomputable def flotsamref08_In_sm : Sum := ⟨(.cons (.sl cI) (.cons cI .nil)), (.cons (.d .bool) .nil), flotsamref08_In⟩
noncomputable def flotsamref08_In_L0 : LoopSum := { hc := ⟨[], [0, 1, 5], [], [], [], [], 32⟩, h := ⟨[(0, (.d (.sl cI))), (1, (.d cI)), (5, (.d cI))], [], [], 32⟩, xid := 0, oc := ⟨[], [], [], [], [], [], 32⟩, o := ⟨[], [], [], 32⟩, rc := ⟨[], [4], [], [], [], [], 32⟩, r := ⟨[(4, (.d .bool))], [], [], 32⟩, F := flotsamref08_In_l0 }
noncomputable def flotsamref08_In_S : List (Nat × Sum) := []
noncomputable def flotsamref08_In_fl : List (Nat × Func) := []
noncomputable def flotsamref08_In_es : List AE := [⟨8, 17, 0, 0, flotsamref08_In_L0⟩]
theorem flotsamref08_In_den0 : (fun x => denStep TEv (look1 flotsamref08_In_S) (look1 flotsamref08_In_fl) (annOf flotsamref08_In_es) 8 17 Go.Proofs.Tryd.f17.ntmps 0 (cat (bodyOf Go.Proofs.Tryd.f17) [true, false, true, false, false]) flotsamref08_In_L0 x) = flotsamref08_In_s0 := by kernel_rfl
theorem flotsamref08_In_den : (fun x => denFun TEv (look1 flotsamref08_In_S) (look1 flotsamref08_In_fl) (annOf flotsamref08_In_es) 8 17 Go.Proofs.Tryd.f17 flotsamref08_In_sm.a flotsamref08_In_sm.r x) = flotsamref08_In_sm.F := by kernel_rfl
theorem flotsamref08_In_ok0 : AEok Go.Proofs.Tryd.prog TEv (look1 flotsamref08_In_S) (look1 flotsamref08_In_fl) (annOf flotsamref08_In_es) ⟨8, 17, 0, 0, flotsamref08_In_L0⟩ := aeok_of 9223372036854775808 Go.Proofs.Tryd.func17 (by kernel_rfl) flotsamref08_In_den0 (by kernel_rfl)
theorem flotsamref08_In_sem : SemOf Go.Proofs.Tryd.prog 17 flotsamref08_In_sm :=
  semMk teOk (sl := flotsamref08_In_S) (all_nil) (fl := flotsamref08_In_fl) (all_nil) (es := flotsamref08_In_es) Go.Proofs.Tryd.func17 (by kernel_rfl) rfl (rng_none (by kernel_rfl) (by kernel_rfl)) (all_cons flotsamref08_In_ok0 (all_nil)) rfl flotsamref08_In_den

/-! ### flotsam/flotsamref06.InUse -/
def flotsamref06_InUse_r (a0 : Span) : Option (Bool × Unit) :=
  bif a0.1 == 1 then
    some (true, ())
  else
  some (a0.1 == 2, ())
def flotsamref06_InUse (x : Span × Unit) : Option (Bool × Unit) := flotsamref06_InUse_r x.1
noncomputable def flotsamref06_InUse_sm : Sum := ⟨(.cons cSpan .nil), (.cons (.d .bool) .nil), flotsamref06_InUse⟩
noncomputable def flotsamref06_InUse_S : List (Nat × Sum) := []
noncomputable def flotsamref06_InUse_fl : List (Nat × Func) := []
noncomputable def flotsamref06_InUse_es : List AE := []
theorem flotsamref06_InUse_den : (fun x => denFun TEv (look1 flotsamref06_InUse_S) (look1 flotsamref06_InUse_fl) (annOf flotsamref06_InUse_es) 8 73 Go.Proofs.Tryd.f73 flotsamref06_InUse_sm.a flotsamref06_InUse_sm.r x) = flotsamref06_InUse_sm.F := by kernel_rfl
theorem flotsamref06_InUse_sem : SemOf Go.Proofs.Tryd.prog 73 flotsamref06_InUse_sm :=
  semMk teOk (sl := flotsamref06_InUse_S) (all_nil) (fl := flotsamref06_InUse_fl) (all_nil) (es := flotsamref06_InUse_es) Go.Proofs.Tryd.func73 (by kernel_rfl) rfl (rng_none (by kernel_rfl) (by kernel_rfl)) (all_nil) rfl flotsamref06_InUse_den

/-! ### flotsam/flotsamref04.Blocks -/
def flotsamref04_Blocks_s0r (v0 : Int) (v3 : Int) (v4 : Int) : Option (SRes (.cons cI cVal) (.cons cI .nil) .nil) :=
  bif decide (v4 < v0) then
    some (.next (v0, wi64 (v3.tdiv 2), wi64 (v4 + 1), ()))
  else
  some (.fin (.out (v3, ())))
def flotsamref04_Blocks_s0 (x : Int × Val) : Option (SRes (.cons cI cVal) (.cons cI .nil) .nil) := flotsamref04_Blocks_s0r x.1 x.2.1 x.2.2.1
def flotsamref04_Blocks_l0 (x : Int × Val) : Option (LRes (.cons cI .nil) .nil) := iterL (h := (.cons cI cVal)) (o := (.cons cI .nil)) (r := .nil) flotsamref04_Blocks_s0 9223372036854775808 x
def flotsamref04_Blocks_r (a0 : Int) : Option (Int × Unit) :=
  bif decide (a0 < 0) then
    some (0, ())
  else
  bif decide (a0 > 3) then
    some (0, ())
  else
  (flotsamref04_Blocks_l0 (a0, 16, 0, ())).bind fun s1 => match s1 with
  | .out s1 =>
    some (s1.1, ())
  | .ret s1 =>
    none
def flotsamref04_Blocks (x : Int × Unit) : Option (Int × Unit) := flotsamref04_Blocks_r x.1
noncomputable def flotsamref04_Blocks_sm : Sum := ⟨(.cons cI .nil), (.cons (.d cI) .nil), flotsamref04_Blocks⟩
noncomputable def flotsamref04_Blocks_L0 : LoopSum := { hc := ⟨[], [0, 3, 4], [], [], [], [], 144⟩, h := ⟨[(0, (.d cI)), (3, (.d cI)), (4, (.d cI))], [], [], 144⟩, xid := 0, oc := ⟨[], [3], [], [], [], [], 144⟩, o := ⟨[(3, (.d cI))], [], [], 144⟩, rc := ⟨[], [], [], [], [144], [], 144⟩, r := ⟨[], [], [], 144⟩, F := flotsamref04_Blocks_l0 }
noncomputable def flotsamref04_Blocks_S : List (Nat × Sum) := []
noncomputable def flotsamref04_Blocks_fl : List (Nat × Func) := []
noncomputable def flotsamref04_Blocks_es : List AE := [⟨8, 74, 0, 0, flotsamref04_Blocks_L0⟩]
theorem flotsamref04_Blocks_den0 : (fun x => denStep TEv (look1 flotsamref04_Blocks_S) (look1 flotsamref04_Blocks_fl) (annOf flotsamref04_Blocks_es) 8 74 Go.Proofs.Tryd.f74.ntmps 0 (cat (bodyOf Go.Proofs.Tryd.f74) [true, true, true, false, true, false, false]) flotsamref04_Blocks_L0 x) = flotsamref04_Blocks_s0 := by kernel_rfl
theorem flotsamref04_Blocks_den : (fun x => denFun TEv (look1 flotsamref04_Blocks_S) (look1 flotsamref04_Blocks_fl) (annOf flotsamref04_Blocks_es) 8 74 Go.Proofs.Tryd.f74 flotsamref04_Blocks_sm.a flotsamref04_Blocks_sm.r x) = flotsamref04_Blocks_sm.F := by kernel_rfl
theorem flotsamref04_Blocks_ok0 : AEok Go.Proofs.Tryd.prog TEv (look1 flotsamref04_Blocks_S) (look1 flotsamref04_Blocks_fl) (annOf flotsamref04_Blocks_es) ⟨8, 74, 0, 0, flotsamref04_Blocks_L0⟩ := aeok_of 9223372036854775808 Go.Proofs.Tryd.func74 (by kernel_rfl) flotsamref04_Blocks_den0 (by kernel_rfl)
theorem flotsamref04_Blocks_sem : SemOf Go.Proofs.Tryd.prog 74 flotsamref04_Blocks_sm :=
  semMk teOk (sl := flotsamref04_Blocks_S) (all_nil) (fl := flotsamref04_Blocks_fl) (all_nil) (es := flotsamref04_Blocks_es) Go.Proofs.Tryd.func74 (by kernel_rfl) rfl (rng_none (by kernel_rfl) (by kernel_rfl)) (all_cons flotsamref04_Blocks_ok0 (all_nil)) rfl flotsamref04_Blocks_den

/-! ### flotsam/flotsamref03.Has -/
def flotsamref03_Has_s0r (v0 : Int) (v1 : Int) (v5 : Int) : Option (SRes (.cons (.int .u32) cVal) (.cons (.int .u32) .nil) .nil) :=
  bif decide (v5 < v1) then
    some (.next (wu32 (v0.tdiv 2), v1, wi64 (v5 + 1), ()))
  else
  some (.fin (.out (v0, ())))
def flotsamref03_Has_s0 (x : Int × Val) : Option (SRes (.cons (.int .u32) cVal) (.cons (.int .u32) .nil) .nil) := flotsamref03_Has_s0r x.1 x.2.1 x.2.2.1
def flotsamref03_Has_l0 (x : Int × Val) : Option (LRes (.cons (.int .u32) .nil) .nil) := iterL (h := (.cons (.int .u32) cVal)) (o := (.cons (.int .u32) .nil)) (r := .nil) flotsamref03_Has_s0 9223372036854775808 x
def flotsamref03_Has_r (a0 : Int) (a1 : Int) : Option (Bool × Unit) :=
  bif decide (a1 < 0) then
    some (false, ())
  else
  bif decide (a1 > 31) then
    some (false, ())
  else
  (flotsamref03_Has_l0 (a0, a1, 0, ())).bind fun s1 => match s1 with
  | .out s1 =>
    some ((s1.1.tmod 2) == 1, ())
  | .ret s1 =>
    none
def flotsamref03_Has (x : Int × Int × Unit) : Option (Bool × Unit) := flotsamref03_Has_r x.1 x.2.1
noncomputable def flotsamref03_Has_sm : Sum := ⟨(.cons (.int .u32) (.cons cI .nil)), (.cons (.d .bool) .nil), flotsamref03_Has⟩
noncomputable def flotsamref03_Has_L0 : LoopSum := { hc := ⟨[], [0, 1, 5], [], [], [], [], 128⟩, h := ⟨[(0, (.d (.int .u32))), (1, (.d cI)), (5, (.d cI))], [], [], 128⟩, xid := 0, oc := ⟨[], [0], [], [], [], [], 128⟩, o := ⟨[(0, (.d (.int .u32)))], [], [], 128⟩, rc := ⟨[], [], [], [], [128], [], 128⟩, r := ⟨[], [], [], 128⟩, F := flotsamref03_Has_l0 }
noncomputable def flotsamref03_Has_S : List (Nat × Sum) := []
noncomputable def flotsamref03_Has_fl : List (Nat × Func) := []
noncomputable def flotsamref03_Has_es : List AE := [⟨8, 75, 0, 0, flotsamref03_Has_L0⟩]
theorem flotsamref03_Has_den0 : (fun x => denStep TEv (look1 flotsamref03_Has_S) (look1 flotsamref03_Has_fl) (annOf flotsamref03_Has_es) 8 75 Go.Proofs.Tryd.f75.ntmps 0 (cat (bodyOf Go.Proofs.Tryd.f75) [true, true, false, true, false, false]) flotsamref03_Has_L0 x) = flotsamref03_Has_s0 := by kernel_rfl
theorem flotsamref03_Has_den : (fun x => denFun TEv (look1 flotsamref03_Has_S) (look1 flotsamref03_Has_fl) (annOf flotsamref03_Has_es) 8 75 Go.Proofs.Tryd.f75 flotsamref03_Has_sm.a flotsamref03_Has_sm.r x) = flotsamref03_Has_sm.F := by kernel_rfl
theorem flotsamref03_Has_ok0 : AEok Go.Proofs.Tryd.prog TEv (look1 flotsamref03_Has_S) (look1 flotsamref03_Has_fl) (annOf flotsamref03_Has_es) ⟨8, 75, 0, 0, flotsamref03_Has_L0⟩ := aeok_of 9223372036854775808 Go.Proofs.Tryd.func75 (by kernel_rfl) flotsamref03_Has_den0 (by kernel_rfl)
theorem flotsamref03_Has_sem : SemOf Go.Proofs.Tryd.prog 75 flotsamref03_Has_sm :=
  semMk teOk (sl := flotsamref03_Has_S) (all_nil) (fl := flotsamref03_Has_fl) (all_nil) (es := flotsamref03_Has_es) Go.Proofs.Tryd.func75 (by kernel_rfl) rfl (rng_none (by kernel_rfl) (by kernel_rfl)) (all_cons flotsamref03_Has_ok0 (all_nil)) rfl flotsamref03_Has_den

/-! ### flotsam/flotsamref06.Right -/
def flotsamref06_Right_s0r (v3 : Int) (c0 : Span) : Option (SRes (.cons cI (.cons cSpan .nil)) .nil (.cons .bool .nil)) :=
  bif decide (v3 < 32) then
    (flotsamref03_Has (c0.2.2.1, v3, ())).bind fun y3 =>
    bif y3.1 then
      some (.fin (.ret (false, ())))
    else
    some (.next (wi64 (v3 + 1), c0, ()))
  else
  some (.fin (.out ()))
def flotsamref06_Right_s0 (x : Int × Span × Unit) : Option (SRes (.cons cI (.cons cSpan .nil)) .nil (.cons .bool .nil)) := flotsamref06_Right_s0r x.1 x.2.1
def flotsamref06_Right_l0 (x : Int × Span × Unit) : Option (LRes .nil (.cons .bool .nil)) := iterL (h := (.cons cI (.cons cSpan .nil))) (o := .nil) (r := (.cons .bool .nil)) flotsamref06_Right_s0 9223372036854775808 x
def flotsamref06_Right_r (a0 : Span) : Option (Bool × Unit) :=
  bif a0.1 == 0 then
    bif a0.2.1 == 0 then
      some (a0.2.2.1 == 0, ())
    else
    some (false, ())
  else
  (flotsamref06_InUse (a0, ())).bind fun y1 =>
  bif !y1.1 then
    some (false, ())
  else
  bif decide (a0.2.1 < 0) then
    some (false, ())
  else
  bif decide (a0.2.1 > 3) then
    some (false, ())
  else
  (flotsamref04_Blocks (a0.2.1, ())).bind fun y2 =>
  (flotsamref06_Right_l0 (y2.1, a0, ())).bind fun s4 => match s4 with
  | .out s4 =>
    some (true, ())
  | .ret s4 =>
    some (s4.1, ())
def flotsamref06_Right (x : Span × Unit) : Option (Bool × Unit) := flotsamref06_Right_r x.1
noncomputable def flotsamref06_Right_sm : Sum := ⟨(.cons cSpan .nil), (.cons (.d .bool) .nil), flotsamref06_Right⟩
noncomputable def flotsamref06_Right_L0 : LoopSum := { hc := ⟨[], [1, 3], [], [], [0], [], 352⟩, h := ⟨[(1, (.pvar 0 [])), (3, (.d cI))], [(0, (.d cSpan))], [], 352⟩, xid := 0, oc := ⟨[], [], [], [], [], [], 352⟩, o := ⟨[], [], [], 352⟩, rc := ⟨[], [2], [], [], [], [], 352⟩, r := ⟨[(2, (.d .bool))], [], [], 352⟩, F := flotsamref06_Right_l0 }
noncomputable def flotsamref06_Right_S : List (Nat × Sum) := [(73, flotsamref06_InUse_sm), (74, flotsamref04_Blocks_sm), (75, flotsamref03_Has_sm)]
noncomputable def flotsamref06_Right_fl : List (Nat × Func) := []
noncomputable def flotsamref06_Right_es : List AE := [⟨8, 42, 0, 0, flotsamref06_Right_L0⟩]
theorem flotsamref06_Right_den0 : (fun x => denStep TEv (look1 flotsamref06_Right_S) (look1 flotsamref06_Right_fl) (annOf flotsamref06_Right_es) 8 42 Go.Proofs.Tryd.f42.ntmps 0 (cat (bodyOf Go.Proofs.Tryd.f42) [true, true, true, false, true, false, false]) flotsamref06_Right_L0 x) = flotsamref06_Right_s0 := by kernel_rfl
theorem flotsamref06_Right_den : (fun x => denFun TEv (look1 flotsamref06_Right_S) (look1 flotsamref06_Right_fl) (annOf flotsamref06_Right_es) 8 42 Go.Proofs.Tryd.f42 flotsamref06_Right_sm.a flotsamref06_Right_sm.r x) = flotsamref06_Right_sm.F := by kernel_rfl
theorem flotsamref06_Right_ok0 : AEok Go.Proofs.Tryd.prog TEv (look1 flotsamref06_Right_S) (look1 flotsamref06_Right_fl) (annOf flotsamref06_Right_es) ⟨8, 42, 0, 0, flotsamref06_Right_L0⟩ := aeok_of 9223372036854775808 Go.Proofs.Tryd.func42 (by kernel_rfl) flotsamref06_Right_den0 (by kernel_rfl)
theorem flotsamref06_Right_sem : SemOf Go.Proofs.Tryd.prog 42 flotsamref06_Right_sm :=
  semMk teOk (sl := flotsamref06_Right_S) (all_cons flotsamref06_InUse_sem (all_cons flotsamref04_Blocks_sem (all_cons flotsamref03_Has_sem all_nil))) (fl := flotsamref06_Right_fl) (all_nil) (es := flotsamref06_Right_es) Go.Proofs.Tryd.func42 (by kernel_rfl) rfl (rng_none (by kernel_rfl) (by kernel_rfl)) (all_cons flotsamref06_Right_ok0 (all_nil)) rfl flotsamref06_Right_den

/-! ### flotsam/flotsamref07.Form -/
def flotsamref07_Form_s0r (v3 : Int) (c0 : Heap) : Option (SRes (.cons cI (.cons cHeap .nil)) .nil (.cons .bool .nil)) :=
  bif decide (v3 < (c0.2.1.length : Int)) then
    bif decide (0 ≤ v3) then
      bif decide (v3 < (c0.2.1.length : Int)) then
        (flotsamref06_Right (c0.2.1.getD v3.toNat (0, 0, 0, ()), ())).bind fun y1 =>
        bif !y1.1 then
          some (.fin (.ret (false, ())))
        else
        some (.next (wi64 (v3 + 1), c0, ()))
      else none
    else none
  else
  some (.fin (.out ()))
def flotsamref07_Form_s0 (x : Int × Heap × Unit) : Option (SRes (.cons cI (.cons cHeap .nil)) .nil (.cons .bool .nil)) := flotsamref07_Form_s0r x.1 x.2.1
def flotsamref07_Form_l0 (x : Int × Heap × Unit) : Option (LRes .nil (.cons .bool .nil)) := iterL (h := (.cons cI (.cons cHeap .nil))) (o := .nil) (r := (.cons .bool .nil)) flotsamref07_Form_s0 9223372036854775808 x
def flotsamref07_Form_r (a0 : Heap) : Option (Bool × Unit) :=
  bif decide ((a0.2.1.length : Int) < 1) then
    some (false, ())
  else
  bif decide ((a0.2.1.length : Int) > 16) then
    some (false, ())
  else
  bif (a0.1.length : Int) != (wi64 (32 * (a0.2.1.length : Int))) then
    some (false, ())
  else
  (flotsamref07_Form_l0 (0, a0, ())).bind fun s2 => match s2 with
  | .out s2 =>
    some (true, ())
  | .ret s2 =>
    some (s2.1, ())
def flotsamref07_Form (x : Heap × Unit) : Option (Bool × Unit) := flotsamref07_Form_r x.1
noncomputable def flotsamref07_Form_sm : Sum := ⟨(.cons cHeap .nil), (.cons (.d .bool) .nil), flotsamref07_Form⟩
noncomputable def flotsamref07_Form_L0 : LoopSum := { hc := ⟨[], [1, 3], [], [], [0], [], 368⟩, h := ⟨[(1, (.pvar 0 [])), (3, (.d cI))], [(0, (.d cHeap))], [], 368⟩, xid := 0, oc := ⟨[], [], [], [], [], [], 368⟩, o := ⟨[], [], [], 368⟩, rc := ⟨[], [2], [], [], [], [], 368⟩, r := ⟨[(2, (.d .bool))], [], [], 368⟩, F := flotsamref07_Form_l0 }
noncomputable def flotsamref07_Form_S : List (Nat × Sum) := [(42, flotsamref06_Right_sm)]
noncomputable def flotsamref07_Form_fl : List (Nat × Func) := []
noncomputable def flotsamref07_Form_es : List AE := [⟨8, 20, 0, 0, flotsamref07_Form_L0⟩]
theorem flotsamref07_Form_den0 : (fun x => denStep TEv (look1 flotsamref07_Form_S) (look1 flotsamref07_Form_fl) (annOf flotsamref07_Form_es) 8 20 Go.Proofs.Tryd.f20.ntmps 0 (cat (bodyOf Go.Proofs.Tryd.f20) [true, true, false, true, false, false]) flotsamref07_Form_L0 x) = flotsamref07_Form_s0 := by kernel_rfl
theorem flotsamref07_Form_den : (fun x => denFun TEv (look1 flotsamref07_Form_S) (look1 flotsamref07_Form_fl) (annOf flotsamref07_Form_es) 8 20 Go.Proofs.Tryd.f20 flotsamref07_Form_sm.a flotsamref07_Form_sm.r x) = flotsamref07_Form_sm.F := by kernel_rfl
theorem flotsamref07_Form_ok0 : AEok Go.Proofs.Tryd.prog TEv (look1 flotsamref07_Form_S) (look1 flotsamref07_Form_fl) (annOf flotsamref07_Form_es) ⟨8, 20, 0, 0, flotsamref07_Form_L0⟩ := aeok_of 9223372036854775808 Go.Proofs.Tryd.func20 (by kernel_rfl) flotsamref07_Form_den0 (by kernel_rfl)
theorem flotsamref07_Form_sem : SemOf Go.Proofs.Tryd.prog 20 flotsamref07_Form_sm :=
  semMk teOk (sl := flotsamref07_Form_S) (all_cons flotsamref06_Right_sem all_nil) (fl := flotsamref07_Form_fl) (all_nil) (es := flotsamref07_Form_es) Go.Proofs.Tryd.func20 (by kernel_rfl) rfl (rng_none (by kernel_rfl) (by kernel_rfl)) (all_cons flotsamref07_Form_ok0 (all_nil)) rfl flotsamref07_Form_den

/-! ### flotsam/roots.Refs -/
def roots_Refs_s0r (v6 : List Val) (v7 : Int) (v8 : Int) (r80 : List Int) : Option (SRes (.cons (.sl cVal) (.cons cI cGrey)) (.cons (.sl cI) .nil) .nil) :=
  bif decide (v8 < v7) then
    bif decide (0 ≤ v8) then
      bif decide (v8 < (v6.length : Int)) then
        bif (v6.getD v8.toNat (0, 0, ())).1 == 2 then
          bif decide ((r80.length + 1) * 8 ≤ 140737488355328) then
            some (.next (v6, v7, wi64 (v8 + 1), r80 ++ [(v6.getD v8.toNat (0, 0, ())).2.1], ()))
          else none
        else
        some (.next (v6, v7, wi64 (v8 + 1), r80, ()))
      else none
    else none
  else
  some (.fin (.out (r80, ())))
def roots_Refs_s0 (x : (List Val) × Int × Grey) : Option (SRes (.cons (.sl cVal) (.cons cI cGrey)) (.cons (.sl cI) .nil) .nil) := roots_Refs_s0r x.1 x.2.1 x.2.2.1 x.2.2.2.1
def roots_Refs_l0 (x : (List Val) × Int × Grey) : Option (LRes (.cons (.sl cI) .nil) .nil) := iterL (h := (.cons (.sl cVal) (.cons cI cGrey))) (o := (.cons (.sl cI) .nil)) (r := .nil) roots_Refs_s0 9223372036854775808 x
def roots_Refs_r (a0 : List Val) : Option ((List Int) × Unit) :=
  (roots_Refs_l0 (a0, (a0.length : Int), 0, [], ())).bind fun s1 => match s1 with
  | .out s1 =>
    some (s1.1, ())
  | .ret s1 =>
    none
def roots_Refs (x : (List Val) × Unit) : Option ((List Int) × Unit) := roots_Refs_r x.1
noncomputable def roots_Refs_sm : Sum := ⟨(.cons (.sl cVal) .nil), (.cons (.own cI) .nil), roots_Refs⟩
noncomputable def roots_Refs_L0 : LoopSum := { hc := ⟨[], [3, 6, 7, 8], [(.tmp 3, cI)], [], [], [], 80⟩, h := ⟨[(3, (.row 80)), (6, (.d (.sl cVal))), (7, (.d cI)), (8, (.d cI))], [], [(80, cI, true)], 81⟩, xid := 0, oc := ⟨[], [3], [(.tmp 3, cI)], [], [], [], 80⟩, o := ⟨[(3, (.row 80))], [], [(80, cI, true)], 81⟩, rc := ⟨[], [], [], [], [80], [], 80⟩, r := ⟨[], [], [], 80⟩, F := roots_Refs_l0 }
noncomputable def roots_Refs_S : List (Nat × Sum) := []
noncomputable def roots_Refs_fl : List (Nat × Func) := []
noncomputable def roots_Refs_es : List AE := [⟨8, 52, 0, 0, roots_Refs_L0⟩]
theorem roots_Refs_den0 : (fun x => denStep TEv (look1 roots_Refs_S) (look1 roots_Refs_fl) (annOf roots_Refs_es) 8 52 Go.Proofs.Tryd.f52.ntmps 0 (cat (bodyOf Go.Proofs.Tryd.f52) [true, true, false, true, false, false]) roots_Refs_L0 x) = roots_Refs_s0 := by kernel_rfl
theorem roots_Refs_den : (fun x => denFun TEv (look1 roots_Refs_S) (look1 roots_Refs_fl) (annOf roots_Refs_es) 8 52 Go.Proofs.Tryd.f52 roots_Refs_sm.a roots_Refs_sm.r x) = roots_Refs_sm.F := by kernel_rfl
theorem roots_Refs_ok0 : AEok Go.Proofs.Tryd.prog TEv (look1 roots_Refs_S) (look1 roots_Refs_fl) (annOf roots_Refs_es) ⟨8, 52, 0, 0, roots_Refs_L0⟩ := aeok_of 9223372036854775808 Go.Proofs.Tryd.func52 (by kernel_rfl) roots_Refs_den0 (by kernel_rfl)
theorem roots_Refs_sem : SemOf Go.Proofs.Tryd.prog 52 roots_Refs_sm :=
  semMk teOk (sl := roots_Refs_S) (all_nil) (fl := roots_Refs_fl) (all_nil) (es := roots_Refs_es) Go.Proofs.Tryd.func52 (by kernel_rfl) rfl (rng_none (by kernel_rfl) (by kernel_rfl)) (all_cons roots_Refs_ok0 (all_nil)) rfl roots_Refs_den

/-! ### flotsam/heap.page -/
def heap_page_r (a0 : Heap) (a1 : Int) : Option (Span × Bool × Unit) :=
  bif decide (a1 < 0) then
    some ((0, 0, 0, ()), false, ())
  else
  bif decide (a1 ≥ (a0.2.1.length : Int)) then
    some ((0, 0, 0, ()), false, ())
  else
  bif decide (0 ≤ a1) then
    bif decide (a1 < (a0.2.1.length : Int)) then
      some (a0.2.1.getD a1.toNat (0, 0, 0, ()), true, ())
    else none
  else none
def heap_page (x : Heap × Int × Unit) : Option (Span × Bool × Unit) := heap_page_r x.1 x.2.1
noncomputable def heap_page_sm : Sum := ⟨(.cons cHeap (.cons cI .nil)), (.cons (.d cSpan) (.cons (.d .bool) .nil)), heap_page⟩
noncomputable def heap_page_S : List (Nat × Sum) := []
noncomputable def heap_page_fl : List (Nat × Func) := []
noncomputable def heap_page_es : List AE := []
theorem heap_page_den : (fun x => denFun TEv (look1 heap_page_S) (look1 heap_page_fl) (annOf heap_page_es) 8 104 Go.Proofs.Tryd.f104 heap_page_sm.a heap_page_sm.r x) = heap_page_sm.F := by kernel_rfl
theorem heap_page_sem : SemOf Go.Proofs.Tryd.prog 104 heap_page_sm :=
  semMk teOk (sl := heap_page_S) (all_nil) (fl := heap_page_fl) (all_nil) (es := heap_page_es) Go.Proofs.Tryd.func104 (by kernel_rfl) rfl (rng_none (by kernel_rfl) (by kernel_rfl)) (all_nil) rfl heap_page_den

/-! ### flotsam/class.is -/
def class_is_r (a0 : Int) : Option (Bool × Unit) :=
  bif decide (a0 ≥ 0) then
    some (decide (a0 < 4), ())
  else
  some (false, ())
def class_is (x : Int × Unit) : Option (Bool × Unit) := class_is_r x.1
noncomputable def class_is_sm : Sum := ⟨(.cons cI .nil), (.cons (.d .bool) .nil), class_is⟩
noncomputable def class_is_S : List (Nat × Sum) := []
noncomputable def class_is_fl : List (Nat × Func) := []
noncomputable def class_is_es : List AE := []
theorem class_is_den : (fun x => denFun TEv (look1 class_is_S) (look1 class_is_fl) (annOf class_is_es) 8 87 Go.Proofs.Tryd.f87 class_is_sm.a class_is_sm.r x) = class_is_sm.F := by kernel_rfl
theorem class_is_sem : SemOf Go.Proofs.Tryd.prog 87 class_is_sm :=
  semMk teOk (sl := class_is_S) (all_nil) (fl := class_is_fl) (all_nil) (es := class_is_es) Go.Proofs.Tryd.func87 (by kernel_rfl) rfl (rng_none (by kernel_rfl) (by kernel_rfl)) (all_nil) rfl class_is_den

/-! ### flotsam/class.Words -/
def class_Words_r (a0 : Int) : Option (Int × Unit) :=
  (class_is (a0, ())).bind fun y1 =>
  bif !y1.1 then
    some (0, ())
  else
  bif decide (0 ≤ a0) then
    bif decide (a0 < 4) then
      some (([2, 4, 8, 16] : List Int).getD a0.toNat 0, ())
    else none
  else none
def class_Words (x : Int × Unit) : Option (Int × Unit) := class_Words_r x.1
noncomputable def class_Words_sm : Sum := ⟨(.cons cI .nil), (.cons (.d cI) .nil), class_Words⟩
noncomputable def class_Words_S : List (Nat × Sum) := [(87, class_is_sm)]
noncomputable def class_Words_fl : List (Nat × Func) := []
noncomputable def class_Words_es : List AE := []
theorem class_Words_den : (fun x => denFun TEv (look1 class_Words_S) (look1 class_Words_fl) (annOf class_Words_es) 8 57 Go.Proofs.Tryd.f57 class_Words_sm.a class_Words_sm.r x) = class_Words_sm.F := by kernel_rfl
theorem class_Words_sem : SemOf Go.Proofs.Tryd.prog 57 class_Words_sm :=
  semMk teOk (sl := class_Words_S) (all_cons class_is_sem all_nil) (fl := class_Words_fl) (all_nil) (es := class_Words_es) Go.Proofs.Tryd.func57 (by kernel_rfl) rfl (rng_none (by kernel_rfl) (by kernel_rfl)) (all_nil) rfl class_Words_den

/-! ### flotsam/arena.Place -/
def arena_Place_r (a0 : Int) (a1 : Int) : Option (Int × Int × Bool × Unit) :=
  (class_Words (a0, ())).bind fun y1 =>
  bif y1.1 == 0 then
    some (0, 0, false, ())
  else
  bif decide (a1 < 0) then
    some (0, 0, false, ())
  else
  bif decide (a1 ≥ 512) then
    some (0, 0, false, ())
  else
  bif y1.1 == 0 then none else
  bif (a1.tmod y1.1) != 0 then
    some (0, 0, false, ())
  else
  bif y1.1 == 0 then none else
  some (wi64 (a1.tdiv 32), wi64 ((a1.tmod 32).tdiv y1.1), true, ())
def arena_Place (x : Val) : Option (Int × Int × Bool × Unit) := arena_Place_r x.1 x.2.1
noncomputable def arena_Place_sm : Sum := ⟨cVal, (.cons (.d cI) (.cons (.d cI) (.cons (.d .bool) .nil))), arena_Place⟩
noncomputable def arena_Place_S : List (Nat × Sum) := [(57, class_Words_sm)]
noncomputable def arena_Place_fl : List (Nat × Func) := []
noncomputable def arena_Place_es : List AE := []
theorem arena_Place_den : (fun x => denFun TEv (look1 arena_Place_S) (look1 arena_Place_fl) (annOf arena_Place_es) 8 105 Go.Proofs.Tryd.f105 arena_Place_sm.a arena_Place_sm.r x) = arena_Place_sm.F := by kernel_rfl
theorem arena_Place_sem : SemOf Go.Proofs.Tryd.prog 105 arena_Place_sm :=
  semMk teOk (sl := arena_Place_S) (all_cons class_Words_sem all_nil) (fl := arena_Place_fl) (all_nil) (es := arena_Place_es) Go.Proofs.Tryd.func105 (by kernel_rfl) rfl (rng_none (by kernel_rfl) (by kernel_rfl)) (all_nil) rfl arena_Place_den

/-! ### flotsam/heap.Find -/
def heap_Find_r (a0 : Heap) (a1 : Int) : Option (Int × Int × Bool × Unit) :=
  (heap_page (a0, wi64 (a1.tdiv 32), ())).bind fun y1 =>
  bif decide (a1 < 0) then
    some (0, 0, false, ())
  else
  bif !y1.2.1 then
    some (0, 0, false, ())
  else
  bif y1.1.1 == 0 then
    some (0, 0, false, ())
  else
  (arena_Place (y1.1.2.1, a1, ())).bind fun y2 =>
  some (y2.1, y2.2.1, y2.2.2.1, ())
def heap_Find (x : Heap × Int × Unit) : Option (Int × Int × Bool × Unit) := heap_Find_r x.1 x.2.1
noncomputable def heap_Find_sm : Sum := ⟨(.cons cHeap (.cons cI .nil)), (.cons (.d cI) (.cons (.d cI) (.cons (.d .bool) .nil))), heap_Find⟩
noncomputable def heap_Find_S : List (Nat × Sum) := [(104, heap_page_sm), (105, arena_Place_sm)]
noncomputable def heap_Find_fl : List (Nat × Func) := []
noncomputable def heap_Find_es : List AE := []
theorem heap_Find_den : (fun x => denFun TEv (look1 heap_Find_S) (look1 heap_Find_fl) (annOf heap_Find_es) 8 81 Go.Proofs.Tryd.f81 heap_Find_sm.a heap_Find_sm.r x) = heap_Find_sm.F := by kernel_rfl
theorem heap_Find_sem : SemOf Go.Proofs.Tryd.prog 81 heap_Find_sm :=
  semMk teOk (sl := heap_Find_S) (all_cons heap_page_sem (all_cons arena_Place_sem all_nil)) (fl := heap_Find_fl) (all_nil) (es := heap_Find_es) Go.Proofs.Tryd.func81 (by kernel_rfl) rfl (rng_none (by kernel_rfl) (by kernel_rfl)) (all_nil) rfl heap_Find_den

/-! ### flotsam/header.May -/
def header_May_r (a0 : Hdr) : Option (Bool × Unit) :=
  bif !a0.1 then
    some ((a0.1 == false) && ((a0.2.1 == false) && ((a0.2.2.1 == 0) && ((a0.2.2.2.1 == 0) && true))), ())
  else
  bif decide (a0.2.2.1 ≥ 0) then
    bif decide (a0.2.2.1 < 4) then
      bif decide (a0.2.2.2.1 ≥ 0) then
        bif decide (a0.2.2.1 < 0) then none else
        some (decide (a0.2.2.2.1 < (shiftI true .i64 2 a0.2.2.1)), ())
      else
      some (false, ())
    else
    some (false, ())
  else
  some (false, ())
def header_May (x : Hdr × Unit) : Option (Bool × Unit) := header_May_r x.1
noncomputable def header_May_sm : Sum := ⟨(.cons cHdr .nil), (.cons (.d .bool) .nil), header_May⟩
noncomputable def header_May_S : List (Nat × Sum) := []
noncomputable def header_May_fl : List (Nat × Func) := []
noncomputable def header_May_es : List AE := []
theorem header_May_den : (fun x => denFun TEv (look1 header_May_S) (look1 header_May_fl) (annOf header_May_es) 8 117 Go.Proofs.Tryd.f117 header_May_sm.a header_May_sm.r x) = header_May_sm.F := by kernel_rfl
theorem header_May_sem : SemOf Go.Proofs.Tryd.prog 117 header_May_sm :=
  semMk teOk (sl := header_May_S) (all_nil) (fl := header_May_fl) (all_nil) (es := header_May_es) Go.Proofs.Tryd.func117 (by kernel_rfl) rfl (rng_none (by kernel_rfl) (by kernel_rfl)) (all_nil) rfl header_May_den

/-! ### flotsam/header.Put -/
def header_Put_r (a0 : Hdr) : Option (Int × Bool × Unit) :=
  (header_May (a0, ())).bind fun y1 =>
  bif !y1.1 then
    some (0, false, ())
  else
  bif !a0.1 then
    some (0, true, ())
  else
  bif a0.2.1 then
    some (bitsI .or .u64 (wu64 (bitsI .or .i64 (bitsI .or .i64 128 (shiftI true .i64 a0.2.2.1 4)) (shiftI true .i64 a0.2.2.2.1 0))) 64, true, ())
  else
  some (wu64 (bitsI .or .i64 (bitsI .or .i64 128 (shiftI true .i64 a0.2.2.1 4)) (shiftI true .i64 a0.2.2.2.1 0)), true, ())
def header_Put (x : Hdr × Unit) : Option (Int × Bool × Unit) := header_Put_r x.1
noncomputable def header_Put_sm : Sum := ⟨(.cons cHdr .nil), (.cons (.d (.int .u64)) (.cons (.d .bool) .nil)), header_Put⟩
noncomputable def header_Put_S : List (Nat × Sum) := [(117, header_May_sm)]
noncomputable def header_Put_fl : List (Nat × Func) := []
noncomputable def header_Put_es : List AE := []
theorem header_Put_den : (fun x => denFun TEv (look1 header_Put_S) (look1 header_Put_fl) (annOf header_Put_es) 8 100 Go.Proofs.Tryd.f100 header_Put_sm.a header_Put_sm.r x) = header_Put_sm.F := by kernel_rfl
theorem header_Put_sem : SemOf Go.Proofs.Tryd.prog 100 header_Put_sm :=
  semMk teOk (sl := header_Put_S) (all_cons header_May_sem all_nil) (fl := header_Put_fl) (all_nil) (es := header_Put_es) Go.Proofs.Tryd.func100 (by kernel_rfl) rfl (rng_none (by kernel_rfl) (by kernel_rfl)) (all_nil) rfl header_Put_den

/-! ### flotsam/header.Get -/
def header_Get_r (a0 : Int) : Option (Hdr × Bool × Unit) :=
  (header_Put (((bitsI .and .u64 a0 128) != 0, (bitsI .and .u64 a0 64) != 0, wi64 (bitsI .and .u64 (shiftI false .u64 a0 4) 3), wi64 (bitsI .and .u64 (shiftI false .u64 a0 0) 15), ()), ())).bind fun y1 =>
  bif !y1.2.1 then
    some ((false, false, 0, 0, ()), false, ())
  else
  bif y1.1 != a0 then
    some ((false, false, 0, 0, ()), false, ())
  else
  some (((bitsI .and .u64 a0 128) != 0, (bitsI .and .u64 a0 64) != 0, wi64 (bitsI .and .u64 (shiftI false .u64 a0 4) 3), wi64 (bitsI .and .u64 (shiftI false .u64 a0 0) 15), ()), true, ())
def header_Get (x : Int × Unit) : Option (Hdr × Bool × Unit) := header_Get_r x.1
noncomputable def header_Get_sm : Sum := ⟨(.cons (.int .u64) .nil), (.cons (.cons (.d .bool) (.cons (.d .bool) (.cons (.d cI) (.cons (.d cI) .nil)))) (.cons (.d .bool) .nil)), header_Get⟩
noncomputable def header_Get_S : List (Nat × Sum) := [(100, header_Put_sm)]
noncomputable def header_Get_fl : List (Nat × Func) := []
noncomputable def header_Get_es : List AE := []
theorem header_Get_den : (fun x => denFun TEv (look1 header_Get_S) (look1 header_Get_fl) (annOf header_Get_es) 8 82 Go.Proofs.Tryd.f82 header_Get_sm.a header_Get_sm.r x) = header_Get_sm.F := by kernel_rfl
theorem header_Get_sem : SemOf Go.Proofs.Tryd.prog 82 header_Get_sm :=
  semMk teOk (sl := header_Get_S) (all_cons header_Put_sem all_nil) (fl := header_Get_fl) (all_nil) (es := header_Get_es) Go.Proofs.Tryd.func82 (by kernel_rfl) rfl (rng_none (by kernel_rfl) (by kernel_rfl)) (all_nil) rfl header_Get_den

/-! ### flotsam/object.Get -/
def object_Get_r (a0 : Heap) (a1 : Int) : Option (Hdr × Bool × Unit) :=
  (heap_Find (a0, a1, ())).bind fun y1 =>
  bif !y1.2.2.1 then
    some ((false, false, 0, 0, ()), false, ())
  else
  bif decide (0 ≤ a1) then
    bif decide (a1 < (a0.1.length : Int)) then
      (header_Get (a0.1.getD a1.toNat 0, ())).bind fun y2 =>
      bif !y2.2.1 then
        some ((false, false, 0, 0, ()), false, ())
      else
      bif !y2.1.1 then
        some ((false, false, 0, 0, ()), false, ())
      else
      bif decide ((wi64 (a1 + y2.1.2.2.2.1)) ≥ (wi64 ((wi64 (y1.1 + 1)) * 32))) then
        some ((false, false, 0, 0, ()), false, ())
      else
      some ((y2.1.1, y2.1.2.1, y2.1.2.2.1, y2.1.2.2.2.1, ()), true, ())
    else none
  else none
def object_Get (x : Heap × Int × Unit) : Option (Hdr × Bool × Unit) := object_Get_r x.1 x.2.1
noncomputable def object_Get_sm : Sum := ⟨(.cons cHeap (.cons cI .nil)), (.cons (.cons (.d .bool) (.cons (.d .bool) (.cons (.d cI) (.cons (.d cI) .nil)))) (.cons (.d .bool) .nil)), object_Get⟩
noncomputable def object_Get_S : List (Nat × Sum) := [(81, heap_Find_sm), (82, header_Get_sm)]
noncomputable def object_Get_fl : List (Nat × Func) := []
noncomputable def object_Get_es : List AE := []
theorem object_Get_den : (fun x => denFun TEv (look1 object_Get_S) (look1 object_Get_fl) (annOf object_Get_es) 8 53 Go.Proofs.Tryd.f53 object_Get_sm.a object_Get_sm.r x) = object_Get_sm.F := by kernel_rfl
theorem object_Get_sem : SemOf Go.Proofs.Tryd.prog 53 object_Get_sm :=
  semMk teOk (sl := object_Get_S) (all_cons heap_Find_sem (all_cons header_Get_sem all_nil)) (fl := object_Get_fl) (all_nil) (es := object_Get_es) Go.Proofs.Tryd.func53 (by kernel_rfl) rfl (rng_none (by kernel_rfl) (by kernel_rfl)) (all_nil) rfl object_Get_den

/-! ### flotsam/word.Get -/
def word_Get_r (a0 : Int) : Option (Val × Unit) :=
  bif a0 == 0 then
    some ((0, 0, ()), ())
  else
  bif (bitsI .and .u64 a0 1) == 1 then
    some ((1, wi64 (shiftI false .u64 a0 1), ()), ())
  else
  some ((2, wi64 ((wi64 (shiftI false .u64 a0 1)) - 1), ()), ())
def word_Get (x : Int × Unit) : Option (Val × Unit) := word_Get_r x.1
noncomputable def word_Get_sm : Sum := ⟨(.cons (.int .u64) .nil), (.cons (.cons (.d cI) (.cons (.d cI) .nil)) .nil), word_Get⟩
noncomputable def word_Get_S : List (Nat × Sum) := []
noncomputable def word_Get_fl : List (Nat × Func) := []
noncomputable def word_Get_es : List AE := []
theorem word_Get_den : (fun x => denFun TEv (look1 word_Get_S) (look1 word_Get_fl) (annOf word_Get_es) 8 83 Go.Proofs.Tryd.f83 word_Get_sm.a word_Get_sm.r x) = word_Get_sm.F := by kernel_rfl
theorem word_Get_sem : SemOf Go.Proofs.Tryd.prog 83 word_Get_sm :=
  semMk teOk (sl := word_Get_S) (all_nil) (fl := word_Get_fl) (all_nil) (es := word_Get_es) Go.Proofs.Tryd.func83 (by kernel_rfl) rfl (rng_none (by kernel_rfl) (by kernel_rfl)) (all_nil) rfl word_Get_den

/-! ### flotsam/object.Refs -/
def object_Refs_s0r (v1 : Int) (v17 : Int) (v18 : Int) (c0 : Heap) (r240 : List Int) : Option (SRes (.cons cI (.cons cI (.cons cI (.cons cHeap (.cons (.sl cI) .nil))))) (.cons (.sl cI) .nil) .nil) :=
  bif decide (v18 < v17) then
    bif decide (0 ≤ (wi64 ((wi64 (v1 + 1)) + v18))) then
      bif decide ((wi64 ((wi64 (v1 + 1)) + v18)) < (c0.1.length : Int)) then
        (word_Get (c0.1.getD (wi64 ((wi64 (v1 + 1)) + v18)).toNat 0, ())).bind fun y2 =>
        bif y2.1.1 == 2 then
          bif decide ((r240.length + 1) * 8 ≤ 140737488355328) then
            some (.next (v1, v17, wi64 (v18 + 1), c0, r240 ++ [y2.1.2.1], ()))
          else none
        else
        some (.next (v1, v17, wi64 (v18 + 1), c0, r240, ()))
      else none
    else none
  else
  some (.fin (.out (r240, ())))
def object_Refs_s0 (x : Int × Int × Int × Heap × (List Int) × Unit) : Option (SRes (.cons cI (.cons cI (.cons cI (.cons cHeap (.cons (.sl cI) .nil))))) (.cons (.sl cI) .nil) .nil) := object_Refs_s0r x.1 x.2.1 x.2.2.1 x.2.2.2.1 x.2.2.2.2.1
def object_Refs_l0 (x : Int × Int × Int × Heap × (List Int) × Unit) : Option (LRes (.cons (.sl cI) .nil) .nil) := iterL (h := (.cons cI (.cons cI (.cons cI (.cons cHeap (.cons (.sl cI) .nil)))))) (o := (.cons (.sl cI) .nil)) (r := .nil) object_Refs_s0 9223372036854775808 x
def object_Refs_r (a0 : Heap) (a1 : Int) : Option ((List Int) × Unit) :=
  (object_Get (a0, a1, ())).bind fun y1 =>
  (object_Refs_l0 (a1, y1.1.2.2.2.1, 0, a0, [], ())).bind fun s3 => match s3 with
  | .out s3 =>
    some (s3.1, ())
  | .ret s3 =>
    none
def object_Refs (x : Heap × Int × Unit) : Option ((List Int) × Unit) := object_Refs_r x.1 x.2.1
noncomputable def object_Refs_sm : Sum := ⟨(.cons cHeap (.cons cI .nil)), (.cons (.own cI) .nil), object_Refs⟩
noncomputable def object_Refs_L0 : LoopSum := { hc := ⟨[], [1, 2, 5, 17, 18], [(.tmp 5, cI)], [], [0], [], 240⟩, h := ⟨[(1, (.d cI)), (2, (.pvar 0 [])), (5, (.row 240)), (17, (.d cI)), (18, (.d cI))], [(0, (.d cHeap))], [(240, cI, true)], 241⟩, xid := 0, oc := ⟨[], [5], [(.tmp 5, cI)], [], [], [], 240⟩, o := ⟨[(5, (.row 240))], [], [(240, cI, true)], 241⟩, rc := ⟨[], [], [], [], [240], [], 240⟩, r := ⟨[], [], [], 240⟩, F := object_Refs_l0 }
noncomputable def object_Refs_S : List (Nat × Sum) := [(53, object_Get_sm), (83, word_Get_sm)]
noncomputable def object_Refs_fl : List (Nat × Func) := []
noncomputable def object_Refs_es : List AE := [⟨8, 54, 0, 0, object_Refs_L0⟩]
theorem object_Refs_den0 : (fun x => denStep TEv (look1 object_Refs_S) (look1 object_Refs_fl) (annOf object_Refs_es) 8 54 Go.Proofs.Tryd.f54.ntmps 0 (cat (bodyOf Go.Proofs.Tryd.f54) [true, true, true, false, true, false, false]) object_Refs_L0 x) = object_Refs_s0 := by kernel_rfl
theorem object_Refs_den : (fun x => denFun TEv (look1 object_Refs_S) (look1 object_Refs_fl) (annOf object_Refs_es) 8 54 Go.Proofs.Tryd.f54 object_Refs_sm.a object_Refs_sm.r x) = object_Refs_sm.F := by kernel_rfl
theorem object_Refs_ok0 : AEok Go.Proofs.Tryd.prog TEv (look1 object_Refs_S) (look1 object_Refs_fl) (annOf object_Refs_es) ⟨8, 54, 0, 0, object_Refs_L0⟩ := aeok_of 9223372036854775808 Go.Proofs.Tryd.func54 (by kernel_rfl) object_Refs_den0 (by kernel_rfl)
theorem object_Refs_sem : SemOf Go.Proofs.Tryd.prog 54 object_Refs_sm :=
  semMk teOk (sl := object_Refs_S) (all_cons object_Get_sem (all_cons word_Get_sem all_nil)) (fl := object_Refs_fl) (all_nil) (es := object_Refs_es) Go.Proofs.Tryd.func54 (by kernel_rfl) rfl (rng_none (by kernel_rfl) (by kernel_rfl)) (all_cons object_Refs_ok0 (all_nil)) rfl object_Refs_den
end Go.Proofs.YtdiogegolnoeoaaDoor.Den
