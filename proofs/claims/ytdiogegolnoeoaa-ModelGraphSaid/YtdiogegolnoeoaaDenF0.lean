/- What functions come to. Printed by a program of this session. -/
import Derived.Test.YtdiogegolnoeoaaDenFw
namespace Go.Proofs.Ytdiogegolnoeoaa.Den
open Go
set_option maxRecDepth 100000
set_option linter.unusedVariables false
/-! ### flotsam/model.Right -/
def model_Right_s0r (v3 : Int) (v7 : List Thing) (v8 : Int) (v9 : Int) (c0 : Model) : Option (SRes (.cons cI (.cons (.sl cThing) (.cons cI (.cons cI (.cons cModel .nil))))) .nil (.cons .bool .nil)) :=
  bif decide (v9 < v8) then
    bif decide (0 ≤ v9) then
      bif decide (v9 < (v7.length : Int)) then
        bif decide ((v7.getD v9.toNat (0, [], ())).1 ≤ v3) then
          some (.fin (.ret (false, ())))
        else
        bif decide ((v7.getD v9.toNat (0, [], ())).1 ≥ c0.1) then
          some (.fin (.ret (false, ())))
        else
        bif decide (((v7.getD v9.toNat (0, [], ())).2.1.length : Int) > 15) then
          some (.fin (.ret (false, ())))
        else
        some (.next ((v7.getD v9.toNat (0, [], ())).1, v7, v8, wi64 (v9 + 1), c0, ()))
      else none
    else none
  else
  some (.fin (.out ()))
def model_Right_s0 (x : Int × (List Thing) × Int × Int × Model × Unit) : Option (SRes (.cons cI (.cons (.sl cThing) (.cons cI (.cons cI (.cons cModel .nil))))) .nil (.cons .bool .nil)) := model_Right_s0r x.1 x.2.1 x.2.2.1 x.2.2.2.1 x.2.2.2.2.1
def model_Right_l0 (x : Int × (List Thing) × Int × Int × Model × Unit) : Option (LRes .nil (.cons .bool .nil)) := iterL (h := (.cons cI (.cons (.sl cThing) (.cons cI (.cons cI (.cons cModel .nil)))))) (o := .nil) (r := (.cons .bool .nil)) model_Right_s0 9223372036854775808 x
def model_Right_r (a0 : Model) : Option (Bool × Unit) :=
  (model_Right_l0 ((-1), a0.2.1, (a0.2.1.length : Int), 0, a0, ())).bind fun s1 => match s1 with
  | .out s1 =>
    some (true, ())
  | .ret s1 =>
    some (s1.1, ())
def model_Right (x : Model × Unit) : Option (Bool × Unit) := model_Right_r x.1
noncomputable def model_Right_sm : Sum := ⟨(.cons cModel .nil), (.cons (.d .bool) .nil), model_Right⟩
noncomputable def model_Right_L0 : LoopSum := { hc := ⟨[], [1, 3, 7, 8, 9], [], [], [0], [], 112⟩, h := ⟨[(1, (.pvar 0 [])), (3, (.d cI)), (7, (.d (.sl cThing))), (8, (.d cI)), (9, (.d cI))], [(0, (.d cModel))], [], 112⟩, xid := 0, oc := ⟨[], [], [], [], [], [], 112⟩, o := ⟨[], [], [], 112⟩, rc := ⟨[], [2], [], [], [], [], 112⟩, r := ⟨[(2, (.d .bool))], [], [], 112⟩, F := model_Right_l0 }
noncomputable def model_Right_S : List (Nat × Sum) := []
noncomputable def model_Right_fl : List (Nat × Func) := []
noncomputable def model_Right_es : List AE := [⟨8, 10, 0, 0, model_Right_L0⟩]
theorem model_Right_den0 : (fun x => denStep TEv (look1 model_Right_S) (look1 model_Right_fl) (annOf model_Right_es) 8 10 Go.Proofs.Try.f10.ntmps 0 (cat (bodyOf Go.Proofs.Try.f10) [true, true, false, true, false, false]) model_Right_L0 x) = model_Right_s0 := by kernel_rfl
theorem model_Right_den : (fun x => denFun TEv (look1 model_Right_S) (look1 model_Right_fl) (annOf model_Right_es) 8 10 Go.Proofs.Try.f10 model_Right_sm.a model_Right_sm.r x) = model_Right_sm.F := by kernel_rfl
theorem model_Right_ok0 : AEok Go.Proofs.Try.prog TEv (look1 model_Right_S) (look1 model_Right_fl) (annOf model_Right_es) ⟨8, 10, 0, 0, model_Right_L0⟩ := aeok_of 9223372036854775808 Go.Proofs.Try.func10 (by kernel_rfl) model_Right_den0 (by kernel_rfl)
theorem model_Right_sem : SemOf Go.Proofs.Try.prog 10 model_Right_sm :=
  semMk teOk (sl := model_Right_S) (all_nil) (fl := model_Right_fl) (all_nil) (es := model_Right_es) Go.Proofs.Try.func10 (by kernel_rfl) rfl (rng_none (by kernel_rfl) (by kernel_rfl)) (all_cons model_Right_ok0 (all_nil)) rfl model_Right_den

/-! ### cmp.isNaN[int] -/
def cmp_isNaN_r (a0 : Int) : Option (Bool × Unit) :=
  some (a0 != a0, ())
def cmp_isNaN (x : Int × Unit) : Option (Bool × Unit) := cmp_isNaN_r x.1
noncomputable def cmp_isNaN_sm : Sum := ⟨(.cons cI .nil), (.cons (.d .bool) .nil), cmp_isNaN⟩
noncomputable def cmp_isNaN_S : List (Nat × Sum) := []
noncomputable def cmp_isNaN_fl : List (Nat × Func) := []
noncomputable def cmp_isNaN_es : List AE := []
theorem cmp_isNaN_den : (fun x => denFun TEv (look1 cmp_isNaN_S) (look1 cmp_isNaN_fl) (annOf cmp_isNaN_es) 8 52 Go.Proofs.Try.f52 cmp_isNaN_sm.a cmp_isNaN_sm.r x) = cmp_isNaN_sm.F := by kernel_rfl
theorem cmp_isNaN_sem : SemOf Go.Proofs.Try.prog 52 cmp_isNaN_sm :=
  semMk teOk (sl := cmp_isNaN_S) (all_nil) (fl := cmp_isNaN_fl) (all_nil) (es := cmp_isNaN_es) Go.Proofs.Try.func52 (by kernel_rfl) rfl (rng_none (by kernel_rfl) (by kernel_rfl)) (all_nil) rfl cmp_isNaN_den

/-! ### cmp.Compare[int] -/
def cmp_Compare_r (a0 : Int) (a1 : Int) : Option (Int × Unit) :=
  (cmp_isNaN (a0, ())).bind fun y1 =>
  (cmp_isNaN (a1, ())).bind fun y2 =>
  bif y1.1 then
    bif y2.1 then
      some (0, ())
    else
    some ((-1), ())
  else
  bif y2.1 then
    some (1, ())
  else
  bif decide (a0 < a1) then
    some ((-1), ())
  else
  bif decide (a0 > a1) then
    some (1, ())
  else
  some (0, ())
def cmp_Compare (x : Val) : Option (Int × Unit) := cmp_Compare_r x.1 x.2.1
noncomputable def cmp_Compare_sm : Sum := ⟨cVal, (.cons (.d cI) .nil), cmp_Compare⟩
noncomputable def cmp_Compare_S : List (Nat × Sum) := [(52, cmp_isNaN_sm)]
noncomputable def cmp_Compare_fl : List (Nat × Func) := []
noncomputable def cmp_Compare_es : List AE := []
theorem cmp_Compare_den : (fun x => denFun TEv (look1 cmp_Compare_S) (look1 cmp_Compare_fl) (annOf cmp_Compare_es) 8 43 Go.Proofs.Try.f43 cmp_Compare_sm.a cmp_Compare_sm.r x) = cmp_Compare_sm.F := by kernel_rfl
theorem cmp_Compare_sem : SemOf Go.Proofs.Try.prog 43 cmp_Compare_sm :=
  semMk teOk (sl := cmp_Compare_S) (all_cons cmp_isNaN_sem all_nil) (fl := cmp_Compare_fl) (all_nil) (es := cmp_Compare_es) Go.Proofs.Try.func43 (by kernel_rfl) rfl (rng_none (by kernel_rfl) (by kernel_rfl)) (all_nil) rfl cmp_Compare_den

/-! ### flotsam/model.at$1 -/
def model_at_1_r (a0 : Thing) (a1 : Int) : Option (Int × Unit) :=
  (cmp_Compare (a0.1, a1, ())).bind fun y1 =>
  some (y1.1, ())
def model_at_1 (x : Thing × Int × Unit) : Option (Int × Unit) := model_at_1_r x.1 x.2.1
noncomputable def model_at_1_sm : Sum := ⟨(.cons cThing (.cons cI .nil)), (.cons (.d cI) .nil), model_at_1⟩
noncomputable def model_at_1_S : List (Nat × Sum) := [(43, cmp_Compare_sm)]
noncomputable def model_at_1_fl : List (Nat × Func) := []
noncomputable def model_at_1_es : List AE := []
theorem model_at_1_den : (fun x => denFun TEv (look1 model_at_1_S) (look1 model_at_1_fl) (annOf model_at_1_es) 8 42 Go.Proofs.Try.f42 model_at_1_sm.a model_at_1_sm.r x) = model_at_1_sm.F := by kernel_rfl
theorem model_at_1_sem : SemOf Go.Proofs.Try.prog 42 model_at_1_sm :=
  semMk teOk (sl := model_at_1_S) (all_cons cmp_Compare_sem all_nil) (fl := model_at_1_fl) (all_nil) (es := model_at_1_es) Go.Proofs.Try.func42 (by kernel_rfl) rfl (rng_none (by kernel_rfl) (by kernel_rfl)) (all_nil) rfl model_at_1_den

/-! ### flotsam/model.at -/
def model_at_s0r (v0 : List Thing) (v1 : Int) (v8 : Int) (v9 : Int) (v10 : Int) : Option (SRes (.cons (.sl cThing) cOp) (.cons (.sl cThing) (.cons cI cVal)) .nil) :=
  bif decide (v9 < v10) then
    bif decide (0 ≤ (wi64 (shiftI false .u64 (wu64 (wi64 (v9 + v10))) 1))) then
      bif decide ((wi64 (shiftI false .u64 (wu64 (wi64 (v9 + v10))) 1)) < (v0.length : Int)) then
        (model_at_1 (v0.getD (wi64 (shiftI false .u64 (wu64 (wi64 (v9 + v10))) 1)).toNat (0, [], ()), v1, ())).bind fun y1 =>
        bif decide (y1.1 < 0) then
          some (.next (v0, v1, v8, wi64 ((wi64 (shiftI false .u64 (wu64 (wi64 (v9 + v10))) 1)) + 1), v10, ()))
        else
        some (.next (v0, v1, v8, v9, wi64 (shiftI false .u64 (wu64 (wi64 (v9 + v10))) 1), ()))
      else none
    else none
  else
  some (.fin (.out (v0, v1, v8, v9, ())))
def model_at_s0 (x : (List Thing) × Op) : Option (SRes (.cons (.sl cThing) cOp) (.cons (.sl cThing) (.cons cI cVal)) .nil) := model_at_s0r x.1 x.2.1 x.2.2.1 x.2.2.2.1 x.2.2.2.2.1
def model_at_l0 (x : (List Thing) × Op) : Option (LRes (.cons (.sl cThing) (.cons cI cVal)) .nil) := iterL (h := (.cons (.sl cThing) cOp)) (o := (.cons (.sl cThing) (.cons cI cVal))) (r := .nil) model_at_s0 9223372036854775808 x
def model_at_r (a0 : Model) (a1 : Int) : Option (Int × Bool × Unit) :=
  (model_at_l0 (a0.2.1, a1, (a0.2.1.length : Int), 0, (a0.2.1.length : Int), ())).bind fun s2 => match s2 with
  | .out s2 =>
    bif decide (s2.2.2.2.1 < s2.2.2.1) then
      bif decide (0 ≤ s2.2.2.2.1) then
        bif decide (s2.2.2.2.1 < (s2.1.length : Int)) then
          (model_at_1 (s2.1.getD s2.2.2.2.1.toNat (0, [], ()), s2.2.1, ())).bind fun y3 =>
          some (s2.2.2.2.1, y3.1 == 0, ())
        else none
      else none
    else
    some (s2.2.2.2.1, false, ())
  | .ret s2 =>
    none
def model_at (x : Model × Int × Unit) : Option (Int × Bool × Unit) := model_at_r x.1 x.2.1
noncomputable def model_at_sm : Sum := ⟨(.cons cModel (.cons cI .nil)), (.cons (.d cI) (.cons (.d .bool) .nil)), model_at⟩
noncomputable def model_at_L0 : LoopSum := { hc := ⟨[], [0, 1, 2, 8, 9, 10], [], [], [], [], 304⟩, h := ⟨[(0, (.d (.sl cThing))), (1, (.d cI)), (2, (.fn 42 .nil .nil)), (8, (.d cI)), (9, (.d cI)), (10, (.d cI))], [], [], 304⟩, xid := 0, oc := ⟨[], [0, 1, 2, 8, 9], [], [], [], [], 304⟩, o := ⟨[(0, (.d (.sl cThing))), (1, (.d cI)), (2, (.fn 42 .nil .nil)), (8, (.d cI)), (9, (.d cI))], [], [], 304⟩, rc := ⟨[], [], [], [], [304], [], 304⟩, r := ⟨[], [], [], 304⟩, F := model_at_l0 }
noncomputable def model_at_S : List (Nat × Sum) := [(42, model_at_1_sm)]
noncomputable def model_at_fl : List (Nat × Func) := [(41, Go.Proofs.Try.f41)]
noncomputable def model_at_es : List AE := [⟨7, 41, 176, 0, model_at_L0⟩]
theorem model_at_den0 : (fun x => denStep TEv (look1 model_at_S) (look1 model_at_fl) (annOf model_at_es) 7 41 Go.Proofs.Try.f41.ntmps 176 (cat (bodyOf Go.Proofs.Try.f41) [true, true, true, false, false, false]) model_at_L0 x) = model_at_s0 := by kernel_rfl
theorem model_at_den : (fun x => denFun TEv (look1 model_at_S) (look1 model_at_fl) (annOf model_at_es) 8 30 Go.Proofs.Try.f30 model_at_sm.a model_at_sm.r x) = model_at_sm.F := by kernel_rfl
theorem model_at_ok0 : AEok Go.Proofs.Try.prog TEv (look1 model_at_S) (look1 model_at_fl) (annOf model_at_es) ⟨7, 41, 176, 0, model_at_L0⟩ := aeok_of 9223372036854775808 Go.Proofs.Try.func41 (by kernel_rfl) model_at_den0 (by kernel_rfl)
theorem model_at_sem : SemOf Go.Proofs.Try.prog 30 model_at_sm :=
  semMk teOk (sl := model_at_S) (all_cons model_at_1_sem all_nil) (fl := model_at_fl) (all_cons ⟨⟨Go.Proofs.Try.func41, by kernel_rfl⟩, rng_none (by kernel_rfl) (by kernel_rfl)⟩ (all_nil)) (es := model_at_es) Go.Proofs.Try.func30 (by kernel_rfl) rfl (rng_none (by kernel_rfl) (by kernel_rfl)) (all_cons model_at_ok0 (all_nil)) rfl model_at_den

/-! ### flotsam/model.Get -/
def model_Get_r (a0 : Model) (a1 : Int) : Option (Thing × Bool × Unit) :=
  (model_at (a0, a1, ())).bind fun y1 =>
  bif !y1.2.1 then
    some ((0, [], ()), false, ())
  else
  bif decide (0 ≤ y1.1) then
    bif decide (y1.1 < (a0.2.1.length : Int)) then
      some (a0.2.1.getD y1.1.toNat (0, [], ()), true, ())
    else none
  else none
def model_Get (x : Model × Int × Unit) : Option (Thing × Bool × Unit) := model_Get_r x.1 x.2.1
noncomputable def model_Get_sm : Sum := ⟨(.cons cModel (.cons cI .nil)), (.cons (.d cThing) (.cons (.d .bool) .nil)), model_Get⟩
noncomputable def model_Get_S : List (Nat × Sum) := [(30, model_at_sm)]
noncomputable def model_Get_fl : List (Nat × Func) := []
noncomputable def model_Get_es : List AE := []
theorem model_Get_den : (fun x => denFun TEv (look1 model_Get_S) (look1 model_Get_fl) (annOf model_Get_es) 8 12 Go.Proofs.Try.f12 model_Get_sm.a model_Get_sm.r x) = model_Get_sm.F := by kernel_rfl
theorem model_Get_sem : SemOf Go.Proofs.Try.prog 12 model_Get_sm :=
  semMk teOk (sl := model_Get_S) (all_cons model_at_sem all_nil) (fl := model_Get_fl) (all_nil) (es := model_Get_es) Go.Proofs.Try.func12 (by kernel_rfl) rfl (rng_none (by kernel_rfl) (by kernel_rfl)) (all_nil) rfl model_Get_den

/-! ### slices.Concat[[]flotsam/api.Thing,flotsam/api.Thing] -/
def slices_Concat_s0r (v0 : List (List Thing)) (v3 : Int) (v9 : List (List Thing)) (v10 : Int) (v11 : Int) : Option (SRes (.cons (.sl (.sl cThing)) (.cons cI (.cons (.sl (.sl cThing)) cVal))) (.cons (.sl (.sl cThing)) (.cons cI .nil)) .nil) :=
  bif decide (v11 < v10) then
    bif decide (0 ≤ v11) then
      bif decide (v11 < (v9.length : Int)) then
        bif decide ((wi64 (v3 + ((v9.getD v11.toNat []).length : Int))) < 0) then none else
        some (.next (v0, wi64 (v3 + ((v9.getD v11.toNat []).length : Int)), v9, v10, wi64 (v11 + 1), ()))
      else none
    else none
  else
  some (.fin (.out (v0, v3, ())))
def slices_Concat_s0 (x : (List (List Thing)) × Int × (List (List Thing)) × Val) : Option (SRes (.cons (.sl (.sl cThing)) (.cons cI (.cons (.sl (.sl cThing)) cVal))) (.cons (.sl (.sl cThing)) (.cons cI .nil)) .nil) := slices_Concat_s0r x.1 x.2.1 x.2.2.1 x.2.2.2.1 x.2.2.2.2.1
def slices_Concat_l0 (x : (List (List Thing)) × Int × (List (List Thing)) × Val) : Option (LRes (.cons (.sl (.sl cThing)) (.cons cI .nil)) .nil) := iterL (h := (.cons (.sl (.sl cThing)) (.cons cI (.cons (.sl (.sl cThing)) cVal)))) (o := (.cons (.sl (.sl cThing)) (.cons cI .nil))) (r := .nil) slices_Concat_s0 9223372036854775808 x
def slices_Concat_s1r (v25 : List (List Thing)) (v26 : Int) (v27 : Int) (r576 : List Thing) : Option (SRes (.cons (.sl (.sl cThing)) (.cons cI (.cons cI (.cons (.sl cThing) .nil)))) (.cons (.sl cThing) .nil) .nil) :=
  bif decide (v27 < v26) then
    bif decide (0 ≤ v27) then
      bif decide (v27 < (v25.length : Int)) then
        bif decide ((r576.length + (v25.getD v27.toNat []).length) * 32 ≤ 140737488355328) then
          some (.next (v25, v26, wi64 (v27 + 1), r576 ++ (v25.getD v27.toNat []), ()))
        else none
      else none
    else none
  else
  some (.fin (.out (r576, ())))
def slices_Concat_s1 (x : (List (List Thing)) × Int × Int × (List Thing) × Unit) : Option (SRes (.cons (.sl (.sl cThing)) (.cons cI (.cons cI (.cons (.sl cThing) .nil)))) (.cons (.sl cThing) .nil) .nil) := slices_Concat_s1r x.1 x.2.1 x.2.2.1 x.2.2.2.1
def slices_Concat_l1 (x : (List (List Thing)) × Int × Int × (List Thing) × Unit) : Option (LRes (.cons (.sl cThing) .nil) .nil) := iterL (h := (.cons (.sl (.sl cThing)) (.cons cI (.cons cI (.cons (.sl cThing) .nil))))) (o := (.cons (.sl cThing) .nil)) (r := .nil) slices_Concat_s1 9223372036854775808 x
def slices_Concat_r (a0 : List (List Thing)) : Option ((List Thing) × Unit) :=
  (slices_Concat_l0 (a0, 0, a0, (a0.length : Int), 0, ())).bind fun s1 => match s1 with
  | .out s1 =>
    bif decide (s1.2.1 < 0) then none else
    bif decide ((wi64 (s1.2.1 - 0)) > 0) then
      bif decide (0 ≤ (wi64 (wi64 (s1.2.1 - 0)))) then
        bif decide ((wi64 (wi64 (s1.2.1 - 0))).toNat * 32 ≤ 140737488355328) then
          bif decide (0 ≤ ((List.replicate (wi64 (wi64 (s1.2.1 - 0))).toNat ((0, [], ()) : Thing)).length : Int)) then
            (slices_Concat_l1 (s1.1, (s1.1.length : Int), 0, ((List.replicate (wi64 (wi64 (s1.2.1 - 0))).toNat ((0, [], ()) : Thing)).drop 0).take 0, ())).bind fun s2 => match s2 with
            | .out s2 =>
              some (s2.1, ())
            | .ret s2 =>
              none
          else none
        else none
      else none
    else
    (slices_Concat_l1 (s1.1, (s1.1.length : Int), 0, [], ())).bind fun s3 => match s3 with
    | .out s3 =>
      some (s3.1, ())
    | .ret s3 =>
      none
  | .ret s1 =>
    none
def slices_Concat (x : (List (List Thing)) × Unit) : Option ((List Thing) × Unit) := slices_Concat_r x.1
noncomputable def slices_Concat_sm : Sum := ⟨(.cons (.sl (.sl cThing)) .nil), (.cons (.own cThing) .nil), slices_Concat⟩
noncomputable def slices_Concat_L0 : LoopSum := { hc := ⟨[], [0, 3, 9, 10, 11], [], [], [], [], 80⟩, h := ⟨[(0, (.d (.sl (.sl cThing)))), (3, (.d cI)), (9, (.d (.sl (.sl cThing)))), (10, (.d cI)), (11, (.d cI))], [], [], 80⟩, xid := 0, oc := ⟨[], [0, 3], [], [], [], [], 80⟩, o := ⟨[(0, (.d (.sl (.sl cThing)))), (3, (.d cI))], [], [], 80⟩, rc := ⟨[], [], [], [], [80], [], 80⟩, r := ⟨[], [], [], 80⟩, F := slices_Concat_l0 }
noncomputable def slices_Concat_L1 : LoopSum := { hc := ⟨[], [6, 25, 26, 27], [(.tmp 6, cThing)], [], [], [], 576⟩, h := ⟨[(6, (.row 576)), (25, (.d (.sl (.sl cThing)))), (26, (.d cI)), (27, (.d cI))], [], [(576, cThing, true)], 577⟩, xid := 2, oc := ⟨[], [6], [(.tmp 6, cThing)], [], [], [], 576⟩, o := ⟨[(6, (.row 576))], [], [(576, cThing, true)], 577⟩, rc := ⟨[], [], [], [], [576], [], 576⟩, r := ⟨[], [], [], 576⟩, F := slices_Concat_l1 }
noncomputable def slices_Concat_S : List (Nat × Sum) := []
noncomputable def slices_Concat_fl : List (Nat × Func) := [(44, Go.Proofs.Try.f44)]
noncomputable def slices_Concat_es : List AE := [⟨8, 31, 0, 0, slices_Concat_L0⟩, ⟨8, 31, 0, 2, slices_Concat_L1⟩]
theorem slices_Concat_den0 : (fun x => denStep TEv (look1 slices_Concat_S) (look1 slices_Concat_fl) (annOf slices_Concat_es) 8 31 Go.Proofs.Try.f31.ntmps 0 (cat (bodyOf Go.Proofs.Try.f31) [true, true, false, true, false, false]) slices_Concat_L0 x) = slices_Concat_s0 := by kernel_rfl
theorem slices_Concat_den1 : (fun x => denStep TEv (look1 slices_Concat_S) (look1 slices_Concat_fl) (annOf slices_Concat_es) 8 31 Go.Proofs.Try.f31.ntmps 0 (cat (bodyOf Go.Proofs.Try.f31) [true, true, true, true, false, true, false, false]) slices_Concat_L1 x) = slices_Concat_s1 := by kernel_rfl
theorem slices_Concat_den : (fun x => denFun TEv (look1 slices_Concat_S) (look1 slices_Concat_fl) (annOf slices_Concat_es) 8 31 Go.Proofs.Try.f31 slices_Concat_sm.a slices_Concat_sm.r x) = slices_Concat_sm.F := by kernel_rfl
theorem slices_Concat_ok0 : AEok Go.Proofs.Try.prog TEv (look1 slices_Concat_S) (look1 slices_Concat_fl) (annOf slices_Concat_es) ⟨8, 31, 0, 0, slices_Concat_L0⟩ := aeok_of 9223372036854775808 Go.Proofs.Try.func31 (by kernel_rfl) slices_Concat_den0 (by kernel_rfl)
theorem slices_Concat_ok1 : AEok Go.Proofs.Try.prog TEv (look1 slices_Concat_S) (look1 slices_Concat_fl) (annOf slices_Concat_es) ⟨8, 31, 0, 2, slices_Concat_L1⟩ := aeok_of 9223372036854775808 Go.Proofs.Try.func31 (by kernel_rfl) slices_Concat_den1 (by kernel_rfl)
theorem slices_Concat_sem : SemOf Go.Proofs.Try.prog 31 slices_Concat_sm :=
  semMk teOk (sl := slices_Concat_S) (all_nil) (fl := slices_Concat_fl) (all_cons ⟨⟨Go.Proofs.Try.func44, by kernel_rfl⟩, rng_none (by kernel_rfl) (by kernel_rfl)⟩ (all_nil)) (es := slices_Concat_es) Go.Proofs.Try.func31 (by kernel_rfl) rfl (rng_none (by kernel_rfl) (by kernel_rfl)) (all_cons slices_Concat_ok0 (all_cons slices_Concat_ok1 (all_nil))) rfl slices_Concat_den

/-! ### flotsam/model.Make -/
def model_Make_r (a0 : Model) (a1 : Int) : Option (Model × Int × Unit) :=
  bif a1 == a1 then
    bif decide (0 ≤ a1) then
      bif decide (a1.toNat * 16 ≤ 140737488355328) then
        (slices_Concat ([a0.2.1, [(a0.1, List.replicate a1.toNat ((0, 0, ()) : Val), ())]], ())).bind fun y1 =>
        some ((wi64 (a0.1 + 1), y1.1, a0.2.2), a0.1, ())
      else none
    else none
  else none
def model_Make (x : Model × Int × Unit) : Option (Model × Int × Unit) := model_Make_r x.1 x.2.1
noncomputable def model_Make_sm : Sum := ⟨(.cons cModel (.cons cI .nil)), (.cons (.cons (.d cI) (.cons (.own cThing) (.d (.cons (.sl (.sl cVal)) .nil)))) (.cons (.d cI) .nil)), model_Make⟩
noncomputable def model_Make_S : List (Nat × Sum) := [(31, slices_Concat_sm)]
noncomputable def model_Make_fl : List (Nat × Func) := []
noncomputable def model_Make_es : List AE := []
theorem model_Make_den : (fun x => denFun TEv (look1 model_Make_S) (look1 model_Make_fl) (annOf model_Make_es) 8 14 Go.Proofs.Try.f14 model_Make_sm.a model_Make_sm.r x) = model_Make_sm.F := by kernel_rfl
theorem model_Make_sem : SemOf Go.Proofs.Try.prog 14 model_Make_sm :=
  semMk teOk (sl := model_Make_S) (all_cons slices_Concat_sem all_nil) (fl := model_Make_fl) (all_nil) (es := model_Make_es) Go.Proofs.Try.func14 (by kernel_rfl) rfl (rng_none (by kernel_rfl) (by kernel_rfl)) (all_nil) rfl model_Make_den

/-! ### flotsam/model.Set -/
def model_Set_r (a0 : Model) (a1 : Int) (a2 : Int) (a3 : Val) : Option (Model × Bool × Unit) :=
  (model_at (a0, a1, ())).bind fun y1 =>
  bif !y1.2.1 then
    some (a0, false, ())
  else
  bif decide (a2 < 0) then
    some (a0, false, ())
  else
  bif decide (0 ≤ y1.1) then
    bif decide (y1.1 < (a0.2.1.length : Int)) then
      bif decide (a2 ≥ ((a0.2.1.getD y1.1.toNat (0, [], ())).2.1.length : Int)) then
        some (a0, false, ())
      else
      (slices_Clone_api_Thing (a0.2.1, ())).bind fun y2 =>
      bif decide (0 ≤ y1.1) then
        bif decide (y1.1 < (y2.1.length : Int)) then
          (slices_Clone_api_Value ((y2.1.getD y1.1.toNat (0, [], ())).2.1, ())).bind fun y3 =>
          bif decide (0 ≤ y1.1) then
            bif decide (y1.1 < (y2.1.length : Int)) then
              bif decide (0 ≤ y1.1) then
                bif decide (y1.1 < (y2.1.length : Int)) then
                  bif Nat.beq y1.1.toNat y1.1.toNat then
                    bif decide (0 ≤ a2) then
                      bif decide (a2 < (y3.1.length : Int)) then
                        some ((a0.1, y2.1.set y1.1.toNat ((y2.1.getD y1.1.toNat (0, [], ())).1, y3.1.set a2.toNat a3, (y2.1.getD y1.1.toNat (0, [], ())).2.2), a0.2.2), true, ())
                      else none
                    else none
                  else none
                else none
              else none
            else none
          else none
        else none
      else none
    else none
  else none
def model_Set (x : Model × Link) : Option (Model × Bool × Unit) := model_Set_r x.1 x.2.1 x.2.2.1 x.2.2.2.1
noncomputable def model_Set_sm : Sum := ⟨(.cons cModel cLink), (.cons (.d cModel) (.cons (.d .bool) .nil)), model_Set⟩
noncomputable def model_Set_S : List (Nat × Sum) := [(30, model_at_sm), (32, slices_Clone_api_Thing_sm), (33, slices_Clone_api_Value_sm)]
noncomputable def model_Set_fl : List (Nat × Func) := []
noncomputable def model_Set_es : List AE := []
theorem model_Set_den : (fun x => denFun TEv (look1 model_Set_S) (look1 model_Set_fl) (annOf model_Set_es) 8 16 Go.Proofs.Try.f16 model_Set_sm.a model_Set_sm.r x) = model_Set_sm.F := by kernel_rfl
theorem model_Set_sem : SemOf Go.Proofs.Try.prog 16 model_Set_sm :=
  semMk teOk (sl := model_Set_S) (all_cons model_at_sem (all_cons slices_Clone_api_Thing_sem (all_cons slices_Clone_api_Value_sem all_nil))) (fl := model_Set_fl) (all_nil) (es := model_Set_es) Go.Proofs.Try.func16 (by kernel_rfl) rfl (rng_none (by kernel_rfl) (by kernel_rfl)) (all_nil) rfl model_Set_den

/-! ### flotsam/model.field -/
def model_field_r (a0 : Model) (a1 : List Val) (a2 : Op) : Option (Int × Unit) :=
  bif decide (a2.2.1 < 0) then
    some (3, ())
  else
  bif decide (a2.2.1 ≥ (a1.length : Int)) then
    some (3, ())
  else
  bif decide (0 ≤ a2.2.1) then
    bif decide (a2.2.1 < (a1.length : Int)) then
      (model_Get (a0, (a1.getD a2.2.1.toNat (0, 0, ())).2.1, ())).bind fun y1 =>
      bif (a1.getD a2.2.1.toNat (0, 0, ())).1 == 0 then
        some (2, ())
      else
      bif (a1.getD a2.2.1.toNat (0, 0, ())).1 != 2 then
        some (7, ())
      else
      bif !y1.2.1 then
        some (1, ())
      else
      bif decide (a2.2.2.1 < 0) then
        some (4, ())
      else
      bif decide (a2.2.2.1 ≥ (y1.1.2.1.length : Int)) then
        some (4, ())
      else
      some (0, ())
    else none
  else none
def model_field (x : Model × (List Val) × Op × Unit) : Option (Int × Unit) := model_field_r x.1 x.2.1 x.2.2.1
noncomputable def model_field_sm : Sum := ⟨(.cons cModel (.cons (.sl cVal) (.cons cOp .nil))), (.cons (.d cI) .nil), model_field⟩
noncomputable def model_field_S : List (Nat × Sum) := [(12, model_Get_sm)]
noncomputable def model_field_fl : List (Nat × Func) := []
noncomputable def model_field_es : List AE := []
theorem model_field_den : (fun x => denFun TEv (look1 model_field_S) (look1 model_field_fl) (annOf model_field_es) 8 46 Go.Proofs.Try.f46 model_field_sm.a model_field_sm.r x) = model_field_sm.F := by kernel_rfl
theorem model_field_sem : SemOf Go.Proofs.Try.prog 46 model_field_sm :=
  semMk teOk (sl := model_field_S) (all_cons model_Get_sem all_nil) (fl := model_field_fl) (all_nil) (es := model_field_es) Go.Proofs.Try.func46 (by kernel_rfl) rfl (rng_none (by kernel_rfl) (by kernel_rfl)) (all_nil) rfl model_field_den

/-! ### flotsam/model.wrong -/
def model_wrong_r (a0 : Model) (a1 : List Val) (a2 : Op) : Option (Int × Unit) :=
  bif mhas ([(0, 15, ()), (4, 1099511627776, ())] : List (Int × Int × Unit)) a2.1 then
    bif decide (a2.2.1 < 0) then
      some (1, ())
    else
    bif decide (a2.2.1 > (mget 0 ([(0, 15, ()), (4, 1099511627776, ())] : List (Int × Int × Unit)) a2.1)) then
      some (1, ())
    else
    bif mhas ([(0, 15, ()), (4, 1099511627776, ())] : List (Int × Int × Unit)) a2.1 then
      some (0, ())
    else
    bif a2.1 == 6 then
      some (0, ())
    else
    bif a2.1 == 3 then
      bif decide (a2.2.1 < 0) then
        some (3, ())
      else
      bif decide (a2.2.1 ≥ (a1.length : Int)) then
        some (3, ())
      else
      some (0, ())
    else
    bif a2.1 == 5 then
      bif decide (0 ≥ (a1.length : Int)) then
        some (3, ())
      else
      some (0, ())
    else
    bif a2.1 != 1 then
      bif a2.1 != 2 then
        some (1, ())
      else
      (model_field (a0, a1, a2, ())).bind fun y1 =>
      bif y1.1 == 0 then
        bif a2.1 == 2 then
          bif decide (a2.2.2.2.1 < 0) then
            some (3, ())
          else
          bif decide (a2.2.2.2.1 ≥ (a1.length : Int)) then
            some (3, ())
          else
          some (0, ())
        else
        some (y1.1, ())
      else
      some (y1.1, ())
    else
    (model_field (a0, a1, a2, ())).bind fun y2 =>
    bif y2.1 == 0 then
      bif a2.1 == 2 then
        bif decide (a2.2.2.2.1 < 0) then
          some (3, ())
        else
        bif decide (a2.2.2.2.1 ≥ (a1.length : Int)) then
          some (3, ())
        else
        some (0, ())
      else
      some (y2.1, ())
    else
    some (y2.1, ())
  else
  bif mhas ([(0, 15, ()), (4, 1099511627776, ())] : List (Int × Int × Unit)) a2.1 then
    some (0, ())
  else
  bif a2.1 == 6 then
    some (0, ())
  else
  bif a2.1 == 3 then
    bif decide (a2.2.1 < 0) then
      some (3, ())
    else
    bif decide (a2.2.1 ≥ (a1.length : Int)) then
      some (3, ())
    else
    some (0, ())
  else
  bif a2.1 == 5 then
    bif decide (0 ≥ (a1.length : Int)) then
      some (3, ())
    else
    some (0, ())
  else
  bif a2.1 != 1 then
    bif a2.1 != 2 then
      some (1, ())
    else
    (model_field (a0, a1, a2, ())).bind fun y3 =>
    bif y3.1 == 0 then
      bif a2.1 == 2 then
        bif decide (a2.2.2.2.1 < 0) then
          some (3, ())
        else
        bif decide (a2.2.2.2.1 ≥ (a1.length : Int)) then
          some (3, ())
        else
        some (0, ())
      else
      some (y3.1, ())
    else
    some (y3.1, ())
  else
  (model_field (a0, a1, a2, ())).bind fun y4 =>
  bif y4.1 == 0 then
    bif a2.1 == 2 then
      bif decide (a2.2.2.2.1 < 0) then
        some (3, ())
      else
      bif decide (a2.2.2.2.1 ≥ (a1.length : Int)) then
        some (3, ())
      else
      some (0, ())
    else
    some (y4.1, ())
  else
  some (y4.1, ())
def model_wrong (x : Model × (List Val) × Op × Unit) : Option (Int × Unit) := model_wrong_r x.1 x.2.1 x.2.2.1
noncomputable def model_wrong_sm : Sum := ⟨(.cons cModel (.cons (.sl cVal) (.cons cOp .nil))), (.cons (.d cI) .nil), model_wrong⟩
noncomputable def model_wrong_S : List (Nat × Sum) := [(46, model_field_sm)]
noncomputable def model_wrong_fl : List (Nat × Func) := [(45, Go.Proofs.Try.f45)]
noncomputable def model_wrong_es : List AE := []
theorem model_wrong_den : (fun x => denFun TEv (look1 model_wrong_S) (look1 model_wrong_fl) (annOf model_wrong_es) 8 34 Go.Proofs.Try.f34 model_wrong_sm.a model_wrong_sm.r x) = model_wrong_sm.F := by kernel_rfl
theorem model_wrong_sem : SemOf Go.Proofs.Try.prog 34 model_wrong_sm :=
  semMk teOk (sl := model_wrong_S) (all_cons model_field_sem all_nil) (fl := model_wrong_fl) (all_cons ⟨⟨Go.Proofs.Try.func45, by kernel_rfl⟩, rng_none (by kernel_rfl) (by kernel_rfl)⟩ (all_nil)) (es := model_wrong_es) Go.Proofs.Try.func34 (by kernel_rfl) rfl (rng_none (by kernel_rfl) (by kernel_rfl)) (all_nil) rfl model_wrong_den

/-! ### flotsam/op.Pushes -/
def op_Pushes_r (a0 : Int) : Option (Bool × Unit) :=
  bif a0 == 0 then
    some (true, ())
  else
  bif a0 == 1 then
    some (true, ())
  else
  bif a0 == 3 then
    some (true, ())
  else
  bif a0 == 4 then
    some (true, ())
  else
  some (false, ())
def op_Pushes (x : Int × Unit) : Option (Bool × Unit) := op_Pushes_r x.1
noncomputable def op_Pushes_sm : Sum := ⟨(.cons cI .nil), (.cons (.d .bool) .nil), op_Pushes⟩
noncomputable def op_Pushes_S : List (Nat × Sum) := []
noncomputable def op_Pushes_fl : List (Nat × Func) := []
noncomputable def op_Pushes_es : List AE := []
theorem op_Pushes_den : (fun x => denFun TEv (look1 op_Pushes_S) (look1 op_Pushes_fl) (annOf op_Pushes_es) 8 35 Go.Proofs.Try.f35 op_Pushes_sm.a op_Pushes_sm.r x) = op_Pushes_sm.F := by kernel_rfl
theorem op_Pushes_sem : SemOf Go.Proofs.Try.prog 35 op_Pushes_sm :=
  semMk teOk (sl := op_Pushes_S) (all_nil) (fl := op_Pushes_fl) (all_nil) (es := op_Pushes_es) Go.Proofs.Try.func35 (by kernel_rfl) rfl (rng_none (by kernel_rfl) (by kernel_rfl)) (all_nil) rfl op_Pushes_den

/-! ### flotsam/model.Check -/
def model_Check_r (a0 : Model) (a1 : Int) (a2 : Int) (a3 : Op) : Option (Int × Unit) :=
  bif decide (0 ≤ a1) then
    bif decide (a1 < (a0.2.2.1.length : Int)) then
      (model_wrong (a0, a0.2.2.1.getD a1.toNat [], a3, ())).bind fun y1 =>
      bif y1.1 == 0 then
        (op_Pushes (a3.1, ())).bind fun y2 =>
        bif y2.1 then
          bif decide (0 ≤ a1) then
            bif decide (a1 < (a0.2.2.1.length : Int)) then
              bif decide (((a0.2.2.1.getD a1.toNat []).length : Int) ≥ a2) then
                some (5, ())
              else
              some (y1.1, ())
            else none
          else none
        else
        some (y1.1, ())
      else
      some (y1.1, ())
    else none
  else none
def model_Check (x : Model × Int × Int × Op × Unit) : Option (Int × Unit) := model_Check_r x.1 x.2.1 x.2.2.1 x.2.2.2.1
noncomputable def model_Check_sm : Sum := ⟨(.cons cModel (.cons cI (.cons cI (.cons cOp .nil)))), (.cons (.d cI) .nil), model_Check⟩
noncomputable def model_Check_S : List (Nat × Sum) := [(34, model_wrong_sm), (35, op_Pushes_sm)]
noncomputable def model_Check_fl : List (Nat × Func) := []
noncomputable def model_Check_es : List AE := []
theorem model_Check_den : (fun x => denFun TEv (look1 model_Check_S) (look1 model_Check_fl) (annOf model_Check_es) 8 21 Go.Proofs.Try.f21 model_Check_sm.a model_Check_sm.r x) = model_Check_sm.F := by kernel_rfl
theorem model_Check_sem : SemOf Go.Proofs.Try.prog 21 model_Check_sm :=
  semMk teOk (sl := model_Check_S) (all_cons model_wrong_sem (all_cons op_Pushes_sem all_nil)) (fl := model_Check_fl) (all_nil) (es := model_Check_es) Go.Proofs.Try.func21 (by kernel_rfl) rfl (rng_none (by kernel_rfl) (by kernel_rfl)) (all_nil) rfl model_Check_den

/-! ### flotsam/flotsamref08.Ints -/
def flotsamref08_Ints_s0r (v0 : List Int) (v1 : List Int) (v5 : Int) : Option (SRes (.cons (.sl cI) (.cons (.sl cI) (.cons cI .nil))) .nil (.cons .bool .nil)) :=
  bif decide (v5 < (v0.length : Int)) then
    bif decide (0 ≤ v5) then
      bif decide (v5 < (v0.length : Int)) then
        bif decide (0 ≤ v5) then
          bif decide (v5 < (v1.length : Int)) then
            bif (v0.getD v5.toNat 0) != (v1.getD v5.toNat 0) then
              some (.fin (.ret (false, ())))
            else
            some (.next (v0, v1, wi64 (v5 + 1), ()))
          else none
        else none
      else none
    else none
  else
  some (.fin (.out ()))
def flotsamref08_Ints_s0 (x : (List Int) × (List Int) × Int × Unit) : Option (SRes (.cons (.sl cI) (.cons (.sl cI) (.cons cI .nil))) .nil (.cons .bool .nil)) := flotsamref08_Ints_s0r x.1 x.2.1 x.2.2.1
def flotsamref08_Ints_l0 (x : (List Int) × (List Int) × Int × Unit) : Option (LRes .nil (.cons .bool .nil)) := iterL (h := (.cons (.sl cI) (.cons (.sl cI) (.cons cI .nil)))) (o := .nil) (r := (.cons .bool .nil)) flotsamref08_Ints_s0 9223372036854775808 x
def flotsamref08_Ints_r (a0 : List Int) (a1 : List Int) : Option (Bool × Unit) :=
  bif (a0.length : Int) != (a1.length : Int) then
    some (false, ())
  else
  (flotsamref08_Ints_l0 (a0, a1, 0, ())).bind fun s1 => match s1 with
  | .out s1 =>
    some (true, ())
  | .ret s1 =>
    some (s1.1, ())
def flotsamref08_Ints (x : (List Int) × (List Int) × Unit) : Option (Bool × Unit) := flotsamref08_Ints_r x.1 x.2.1
noncomputable def flotsamref08_Ints_sm : Sum := ⟨(.cons (.sl cI) (.cons (.sl cI) .nil)), (.cons (.d .bool) .nil), flotsamref08_Ints⟩
noncomputable def flotsamref08_Ints_L0 : LoopSum := { hc := ⟨[], [0, 1, 5], [], [], [], [], 112⟩, h := ⟨[(0, (.d (.sl cI))), (1, (.d (.sl cI))), (5, (.d cI))], [], [], 112⟩, xid := 0, oc := ⟨[], [], [], [], [], [], 112⟩, o := ⟨[], [], [], 112⟩, rc := ⟨[], [4], [], [], [], [], 112⟩, r := ⟨[(4, (.d .bool))], [], [], 112⟩, F := flotsamref08_Ints_l0 }
noncomputable def flotsamref08_Ints_S : List (Nat × Sum) := []
noncomputable def flotsamref08_Ints_fl : List (Nat × Func) := []
noncomputable def flotsamref08_Ints_es : List AE := [⟨8, 23, 0, 0, flotsamref08_Ints_L0⟩]
theorem flotsamref08_Ints_den0 : (fun x => denStep TEv (look1 flotsamref08_Ints_S) (look1 flotsamref08_Ints_fl) (annOf flotsamref08_Ints_es) 8 23 Go.Proofs.Try.f23.ntmps 0 (cat (bodyOf Go.Proofs.Try.f23) [true, true, false, true, false, false]) flotsamref08_Ints_L0 x) = flotsamref08_Ints_s0 := by kernel_rfl
theorem flotsamref08_Ints_den : (fun x => denFun TEv (look1 flotsamref08_Ints_S) (look1 flotsamref08_Ints_fl) (annOf flotsamref08_Ints_es) 8 23 Go.Proofs.Try.f23 flotsamref08_Ints_sm.a flotsamref08_Ints_sm.r x) = flotsamref08_Ints_sm.F := by kernel_rfl
theorem flotsamref08_Ints_ok0 : AEok Go.Proofs.Try.prog TEv (look1 flotsamref08_Ints_S) (look1 flotsamref08_Ints_fl) (annOf flotsamref08_Ints_es) ⟨8, 23, 0, 0, flotsamref08_Ints_L0⟩ := aeok_of 9223372036854775808 Go.Proofs.Try.func23 (by kernel_rfl) flotsamref08_Ints_den0 (by kernel_rfl)
theorem flotsamref08_Ints_sem : SemOf Go.Proofs.Try.prog 23 flotsamref08_Ints_sm :=
  semMk teOk (sl := flotsamref08_Ints_S) (all_nil) (fl := flotsamref08_Ints_fl) (all_nil) (es := flotsamref08_Ints_es) Go.Proofs.Try.func23 (by kernel_rfl) rfl (rng_none (by kernel_rfl) (by kernel_rfl)) (all_cons flotsamref08_Ints_ok0 (all_nil)) rfl flotsamref08_Ints_den

/-! ### flotsam/model.Reach -/
def model_Reach_s0r (c0 : Model) (c32 : List (Int × Bool × Unit)) (r112 : List Val) : Option (SRes (.cons cModel (.cons (.sl (.cons cI (.cons .bool .nil))) (.cons (.sl cVal) .nil))) (.cons (.sl (.cons cI (.cons .bool .nil))) .nil) .nil) :=
  bif decide ((r112.length : Int) > 0) then
    bif decide (0 ≤ (wi64 ((r112.length : Int) - 1))) then
      bif decide ((wi64 ((r112.length : Int) - 1)) < (r112.length : Int)) then
        bif decide (0 ≤ (wi64 ((r112.length : Int) - 1))) then
          bif decide ((wi64 ((r112.length : Int) - 1)) ≤ (r112.length : Int)) then
            (model_Get (c0, (r112.getD (wi64 ((r112.length : Int) - 1)).toNat (0, 0, ())).2.1, ())).bind fun y2 =>
            bif (r112.getD (wi64 ((r112.length : Int) - 1)).toNat (0, 0, ())).1 != 2 then
              some (.next (c0, c32, (r112.drop 0).take ((wi64 ((r112.length : Int) - 1)).toNat - 0), ()))
            else
            bif !y2.2.1 then
              some (.next (c0, c32, (r112.drop 0).take ((wi64 ((r112.length : Int) - 1)).toNat - 0), ()))
            else
            bif mget false c32 (r112.getD (wi64 ((r112.length : Int) - 1)).toNat (0, 0, ())).2.1 then
              some (.next (c0, c32, (r112.drop 0).take ((wi64 ((r112.length : Int) - 1)).toNat - 0), ()))
            else
            bif decide (c32.length < 9223372036854775807) then
              bif decide ((((r112.drop 0).take ((wi64 ((r112.length : Int) - 1)).toNat - 0)).length + y2.1.2.1.length) * 16 ≤ 140737488355328) then
                some (.next (c0, mput c32 (r112.getD (wi64 ((r112.length : Int) - 1)).toNat (0, 0, ())).2.1 true, ((r112.drop 0).take ((wi64 ((r112.length : Int) - 1)).toNat - 0)) ++ y2.1.2.1, ()))
              else none
            else none
          else none
        else none
      else none
    else none
  else
  some (.fin (.out (c32, ())))
def model_Reach_s0 (x : Model × (List (Int × Bool × Unit)) × (List Val) × Unit) : Option (SRes (.cons cModel (.cons (.sl (.cons cI (.cons .bool .nil))) (.cons (.sl cVal) .nil))) (.cons (.sl (.cons cI (.cons .bool .nil))) .nil) .nil) := model_Reach_s0r x.1 x.2.1 x.2.2.1
def model_Reach_l0 (x : Model × (List (Int × Bool × Unit)) × (List Val) × Unit) : Option (LRes (.cons (.sl (.cons cI (.cons .bool .nil))) .nil) .nil) := iterL (h := (.cons cModel (.cons (.sl (.cons cI (.cons .bool .nil))) (.cons (.sl cVal) .nil)))) (o := (.cons (.sl (.cons cI (.cons .bool .nil))) .nil)) (r := .nil) model_Reach_s0 9223372036854775808 x
def model_Reach_r (a0 : Model) (a1 : List Val) : Option ((List Int) × Unit) :=
  (slices_Clone_api_Value (a1, ())).bind fun y1 =>
  (model_Reach_l0 (a0, [], y1.1, ())).bind fun s3 => match s3 with
  | .out s3 =>
    bif s3.1.all fun p => inI64 p.1 then
      bif decide (s3.1.length * 8 ≤ 140737488355328) then
        some (isort (s3.1.map fun p => p.1), ())
      else none
    else none
  | .ret s3 =>
    none
def model_Reach (x : Model × (List Val) × Unit) : Option ((List Int) × Unit) := model_Reach_r x.1 x.2.1
noncomputable def model_Reach_sm : Sum := ⟨(.cons cModel (.cons (.sl cVal) .nil)), (.cons (.own cI) .nil), model_Reach⟩
noncomputable def model_Reach_L0 : LoopSum := { hc := ⟨[], [2, 5, 6], [(.tmp 6, cVal)], [], [0, 32], [], 112⟩, h := ⟨[(2, (.pvar 0 [])), (5, (.mp 32)), (6, (.row 112))], [(0, (.d cModel)), (32, (.mapd .bool))], [(112, cVal, true)], 113⟩, xid := 0, oc := ⟨[], [5], [], [], [32], [], 112⟩, o := ⟨[(5, (.mp 32))], [(32, (.mapd .bool))], [], 112⟩, rc := ⟨[], [], [], [], [112], [], 112⟩, r := ⟨[], [], [], 112⟩, F := model_Reach_l0 }
noncomputable def model_Reach_S : List (Nat × Sum) := [(12, model_Get_sm), (33, slices_Clone_api_Value_sm)]
noncomputable def model_Reach_fl : List (Nat × Func) := [(37, Go.Proofs.Try.f37)]
noncomputable def model_Reach_es : List AE := [⟨8, 24, 0, 0, model_Reach_L0⟩]
theorem model_Reach_den0 : (fun x => denStep TEv (look1 model_Reach_S) (look1 model_Reach_fl) (annOf model_Reach_es) 8 24 Go.Proofs.Try.f24.ntmps 0 (cat (bodyOf Go.Proofs.Try.f24) [true, true, true, false, false, false]) model_Reach_L0 x) = model_Reach_s0 := by kernel_rfl
theorem model_Reach_den : (fun x => denFun TEv (look1 model_Reach_S) (look1 model_Reach_fl) (annOf model_Reach_es) 8 24 Go.Proofs.Try.f24 model_Reach_sm.a model_Reach_sm.r x) = model_Reach_sm.F := by kernel_rfl
theorem model_Reach_ok0 : AEok Go.Proofs.Try.prog TEv (look1 model_Reach_S) (look1 model_Reach_fl) (annOf model_Reach_es) ⟨8, 24, 0, 0, model_Reach_L0⟩ := aeok_of 9223372036854775808 Go.Proofs.Try.func24 (by kernel_rfl) model_Reach_den0 (by kernel_rfl)
theorem model_Reach_sem : SemOf Go.Proofs.Try.prog 24 model_Reach_sm :=
  semMk teOk (sl := model_Reach_S) (all_cons model_Get_sem (all_cons slices_Clone_api_Value_sem all_nil)) (fl := model_Reach_fl) (all_cons ⟨⟨Go.Proofs.Try.func37, by kernel_rfl⟩, rng_none (by kernel_rfl) (by kernel_rfl)⟩ (all_nil)) (es := model_Reach_es) Go.Proofs.Try.func24 (by kernel_rfl) rfl (rng_none (by kernel_rfl) (by kernel_rfl)) (all_cons model_Reach_ok0 (all_nil)) rfl model_Reach_den

/-! ### slices.Index[[]int,int] -/
def slices_Index_s0r (v0 : List Int) (v1 : Int) (v7 : Int) (v8 : Int) : Option (SRes (.cons (.sl cI) (.cons cI cVal)) .nil (.cons cI .nil)) :=
  bif decide (v8 < v7) then
    bif decide (0 ≤ v8) then
      bif decide (v8 < (v0.length : Int)) then
        bif v1 == (v0.getD v8.toNat 0) then
          some (.fin (.ret (v8, ())))
        else
        some (.next (v0, v1, v7, wi64 (v8 + 1), ()))
      else none
    else none
  else
  some (.fin (.out ()))
def slices_Index_s0 (x : (List Int) × Int × Val) : Option (SRes (.cons (.sl cI) (.cons cI cVal)) .nil (.cons cI .nil)) := slices_Index_s0r x.1 x.2.1 x.2.2.1 x.2.2.2.1
def slices_Index_l0 (x : (List Int) × Int × Val) : Option (LRes .nil (.cons cI .nil)) := iterL (h := (.cons (.sl cI) (.cons cI cVal))) (o := .nil) (r := (.cons cI .nil)) slices_Index_s0 9223372036854775808 x
def slices_Index_r (a0 : List Int) (a1 : Int) : Option (Int × Unit) :=
  (slices_Index_l0 (a0, a1, (a0.length : Int), 0, ())).bind fun s1 => match s1 with
  | .out s1 =>
    some ((-1), ())
  | .ret s1 =>
    some (s1.1, ())
def slices_Index (x : (List Int) × Int × Unit) : Option (Int × Unit) := slices_Index_r x.1 x.2.1
noncomputable def slices_Index_sm : Sum := ⟨(.cons (.sl cI) (.cons cI .nil)), (.cons (.d cI) .nil), slices_Index⟩
noncomputable def slices_Index_L0 : LoopSum := { hc := ⟨[], [0, 1, 7, 8], [], [], [], [], 64⟩, h := ⟨[(0, (.d (.sl cI))), (1, (.d cI)), (7, (.d cI)), (8, (.d cI))], [], [], 64⟩, xid := 0, oc := ⟨[], [], [], [], [], [], 64⟩, o := ⟨[], [], [], 64⟩, rc := ⟨[], [4], [], [], [], [], 64⟩, r := ⟨[(4, (.d cI))], [], [], 64⟩, F := slices_Index_l0 }
noncomputable def slices_Index_S : List (Nat × Sum) := []
noncomputable def slices_Index_fl : List (Nat × Func) := []
noncomputable def slices_Index_es : List AE := [⟨8, 51, 0, 0, slices_Index_L0⟩]
theorem slices_Index_den0 : (fun x => denStep TEv (look1 slices_Index_S) (look1 slices_Index_fl) (annOf slices_Index_es) 8 51 Go.Proofs.Try.f51.ntmps 0 (cat (bodyOf Go.Proofs.Try.f51) [true, false, true, false, false]) slices_Index_L0 x) = slices_Index_s0 := by kernel_rfl
theorem slices_Index_den : (fun x => denFun TEv (look1 slices_Index_S) (look1 slices_Index_fl) (annOf slices_Index_es) 8 51 Go.Proofs.Try.f51 slices_Index_sm.a slices_Index_sm.r x) = slices_Index_sm.F := by kernel_rfl
theorem slices_Index_ok0 : AEok Go.Proofs.Try.prog TEv (look1 slices_Index_S) (look1 slices_Index_fl) (annOf slices_Index_es) ⟨8, 51, 0, 0, slices_Index_L0⟩ := aeok_of 9223372036854775808 Go.Proofs.Try.func51 (by kernel_rfl) slices_Index_den0 (by kernel_rfl)
theorem slices_Index_sem : SemOf Go.Proofs.Try.prog 51 slices_Index_sm :=
  semMk teOk (sl := slices_Index_S) (all_nil) (fl := slices_Index_fl) (all_nil) (es := slices_Index_es) Go.Proofs.Try.func51 (by kernel_rfl) rfl (rng_none (by kernel_rfl) (by kernel_rfl)) (all_cons slices_Index_ok0 (all_nil)) rfl slices_Index_den
end Go.Proofs.Ytdiogegolnoeoaa.Den
