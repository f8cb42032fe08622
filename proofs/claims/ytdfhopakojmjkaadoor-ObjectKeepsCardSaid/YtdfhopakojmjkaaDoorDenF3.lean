/- What functions come to. Printed by a program of this session. -/
import Derived.Test.YtdfhopakojmjkaaDoorDenF2
namespace Go.Proofs.YtdfhopakojmjkaaDoor.Den
open Go
set_option maxRecDepth 100000
set_option linter.unusedVariables false
/-! ### flotsam/flotsamref06.Right -/
def flotsamref06_Right_s0r (v3 : Int) (c0 : Span) : Option (SRes (.cons cI (.cons cSpan .nil)) .nil (.cons .bool .nil)) :=
  bif decide (v3 < 32) then
    (flotsamref03_Has (c0.2.2.1, v3, ())).bind fun y3 =>
    bif y3.1 then
      some (.fin (.ret (false, ())))
    else
    some (.next (wi64 (v3 + 1), c0, ()))
  else
  some (.fin (.out ()))
def flotsamref06_Right_s0 (x : Int × Span × Unit) : Option (SRes (.cons cI (.cons cSpan .nil)) .nil (.cons .bool .nil)) := flotsamref06_Right_s0r x.1 x.2.1
def flotsamref06_Right_l0 (x : Int × Span × Unit) : Option (LRes .nil (.cons .bool .nil)) := iterL (h := (.cons cI (.cons cSpan .nil))) (o := .nil) (r := (.cons .bool .nil)) flotsamref06_Right_s0 9223372036854775808 x
def flotsamref06_Right_r (a0 : Span) : Option (Bool × Unit) :=
  bif a0.1 == 0 then
    bif a0.2.1 == 0 then
      some (a0.2.2.1 == 0, ())
    else
    some (false, ())
  else
  (flotsamref06_InUse (a0, ())).bind fun y1 =>
  bif !y1.1 then
    some (false, ())
  else
  bif decide (a0.2.1 < 0) then
    some (false, ())
  else
  bif decide (a0.2.1 > 3) then
    some (false, ())
  else
  (flotsamref04_Blocks (a0.2.1, ())).bind fun y2 =>
  (flotsamref06_Right_l0 (y2.1, a0, ())).bind fun s4 => match s4 with
  | .out s4 =>
    some (true, ())
  | .ret s4 =>
    some (s4.1, ())
def flotsamref06_Right (x : Span × Unit) : Option (Bool × Unit) := flotsamref06_Right_r x.1
noncomputable def flotsamref06_Right_sm : Sum := ⟨(.cons cSpan .nil), (.cons (.d .bool) .nil), flotsamref06_Right⟩
noncomputable def flotsamref06_Right_L0 : LoopSum := { hc := ⟨[], [1, 3], [], [], [0], [], 352⟩, h := ⟨[(1, (.pvar 0 [])), (3, (.d cI))], [(0, (.d cSpan))], [], 352⟩, xid := 0, oc := ⟨[], [], [], [], [], [], 352⟩, o := ⟨[], [], [], 352⟩, rc := ⟨[], [2], [], [], [], [], 352⟩, r := ⟨[(2, (.d .bool))], [], [], 352⟩, F := flotsamref06_Right_l0 }
noncomputable def flotsamref06_Right_S : List (Nat × Sum) := [(99, flotsamref04_Blocks_sm), (136, flotsamref06_InUse_sm), (137, flotsamref03_Has_sm)]
noncomputable def flotsamref06_Right_fl : List (Nat × Func) := []
noncomputable def flotsamref06_Right_es : List AE := [⟨8, 71, 0, 0, flotsamref06_Right_L0⟩]
theorem flotsamref06_Right_den0 : (fun x => denStep TEv (look1 flotsamref06_Right_S) (look1 flotsamref06_Right_fl) (annOf flotsamref06_Right_es) 8 71 Go.Proofs.Tryd.f71.ntmps 0 (cat (bodyOf Go.Proofs.Tryd.f71) [true, true, true, false, true, false, false]) flotsamref06_Right_L0 x) = flotsamref06_Right_s0 := by kernel_rfl
theorem flotsamref06_Right_den : (fun x => denFun TEv (look1 flotsamref06_Right_S) (look1 flotsamref06_Right_fl) (annOf flotsamref06_Right_es) 8 71 Go.Proofs.Tryd.f71 flotsamref06_Right_sm.a flotsamref06_Right_sm.r x) = flotsamref06_Right_sm.F := by kernel_rfl
theorem flotsamref06_Right_ok0 : AEok Go.Proofs.Tryd.prog TEv (look1 flotsamref06_Right_S) (look1 flotsamref06_Right_fl) (annOf flotsamref06_Right_es) ⟨8, 71, 0, 0, flotsamref06_Right_L0⟩ := aeok_of 9223372036854775808 Go.Proofs.Tryd.func71 (by kernel_rfl) flotsamref06_Right_den0 (by kernel_rfl)
theorem flotsamref06_Right_sem : SemOf Go.Proofs.Tryd.prog 71 flotsamref06_Right_sm :=
  semMk teOk (sl := flotsamref06_Right_S) (all_cons flotsamref04_Blocks_sem (all_cons flotsamref06_InUse_sem (all_cons flotsamref03_Has_sem all_nil))) (fl := flotsamref06_Right_fl) (all_nil) (es := flotsamref06_Right_es) Go.Proofs.Tryd.func71 (by kernel_rfl) rfl (rng_none (by kernel_rfl) (by kernel_rfl)) (all_cons flotsamref06_Right_ok0 (all_nil)) rfl flotsamref06_Right_den

/-! ### flotsam/flotsamref07.Form -/
def flotsamref07_Form_s0r (v3 : Int) (c0 : Heap) : Option (SRes (.cons cI (.cons cHeap .nil)) .nil (.cons .bool .nil)) :=
  bif decide (v3 < (c0.2.1.length : Int)) then
    bif decide (0 ≤ v3) then
      bif decide (v3 < (c0.2.1.length : Int)) then
        (flotsamref06_Right (c0.2.1.getD v3.toNat (0, 0, 0, ()), ())).bind fun y1 =>
        bif !y1.1 then
          some (.fin (.ret (false, ())))
        else
        some (.next (wi64 (v3 + 1), c0, ()))
      else none
    else none
  else
  some (.fin (.out ()))
def flotsamref07_Form_s0 (x : Int × Heap × Unit) : Option (SRes (.cons cI (.cons cHeap .nil)) .nil (.cons .bool .nil)) := flotsamref07_Form_s0r x.1 x.2.1
def flotsamref07_Form_l0 (x : Int × Heap × Unit) : Option (LRes .nil (.cons .bool .nil)) := iterL (h := (.cons cI (.cons cHeap .nil))) (o := .nil) (r := (.cons .bool .nil)) flotsamref07_Form_s0 9223372036854775808 x
def flotsamref07_Form_r (a0 : Heap) : Option (Bool × Unit) :=
  bif decide ((a0.2.1.length : Int) < 1) then
    some (false, ())
  else
  bif decide ((a0.2.1.length : Int) > 16) then
    some (false, ())
  else
  bif (a0.1.length : Int) != (wi64 (32 * (a0.2.1.length : Int))) then
    some (false, ())
  else
  (flotsamref07_Form_l0 (0, a0, ())).bind fun s2 => match s2 with
  | .out s2 =>
    some (true, ())
  | .ret s2 =>
    some (s2.1, ())
def flotsamref07_Form (x : Heap × Unit) : Option (Bool × Unit) := flotsamref07_Form_r x.1
noncomputable def flotsamref07_Form_sm : Sum := ⟨(.cons cHeap .nil), (.cons (.d .bool) .nil), flotsamref07_Form⟩
noncomputable def flotsamref07_Form_L0 : LoopSum := { hc := ⟨[], [1, 3], [], [], [0], [], 368⟩, h := ⟨[(1, (.pvar 0 [])), (3, (.d cI))], [(0, (.d cHeap))], [], 368⟩, xid := 0, oc := ⟨[], [], [], [], [], [], 368⟩, o := ⟨[], [], [], 368⟩, rc := ⟨[], [2], [], [], [], [], 368⟩, r := ⟨[(2, (.d .bool))], [], [], 368⟩, F := flotsamref07_Form_l0 }
noncomputable def flotsamref07_Form_S : List (Nat × Sum) := [(71, flotsamref06_Right_sm)]
noncomputable def flotsamref07_Form_fl : List (Nat × Func) := []
noncomputable def flotsamref07_Form_es : List AE := [⟨8, 21, 0, 0, flotsamref07_Form_L0⟩]
theorem flotsamref07_Form_den0 : (fun x => denStep TEv (look1 flotsamref07_Form_S) (look1 flotsamref07_Form_fl) (annOf flotsamref07_Form_es) 8 21 Go.Proofs.Tryd.f21.ntmps 0 (cat (bodyOf Go.Proofs.Tryd.f21) [true, true, false, true, false, false]) flotsamref07_Form_L0 x) = flotsamref07_Form_s0 := by kernel_rfl
theorem flotsamref07_Form_den : (fun x => denFun TEv (look1 flotsamref07_Form_S) (look1 flotsamref07_Form_fl) (annOf flotsamref07_Form_es) 8 21 Go.Proofs.Tryd.f21 flotsamref07_Form_sm.a flotsamref07_Form_sm.r x) = flotsamref07_Form_sm.F := by kernel_rfl
theorem flotsamref07_Form_ok0 : AEok Go.Proofs.Tryd.prog TEv (look1 flotsamref07_Form_S) (look1 flotsamref07_Form_fl) (annOf flotsamref07_Form_es) ⟨8, 21, 0, 0, flotsamref07_Form_L0⟩ := aeok_of 9223372036854775808 Go.Proofs.Tryd.func21 (by kernel_rfl) flotsamref07_Form_den0 (by kernel_rfl)
theorem flotsamref07_Form_sem : SemOf Go.Proofs.Tryd.prog 21 flotsamref07_Form_sm :=
  semMk teOk (sl := flotsamref07_Form_S) (all_cons flotsamref06_Right_sem all_nil) (fl := flotsamref07_Form_fl) (all_nil) (es := flotsamref07_Form_es) Go.Proofs.Tryd.func21 (by kernel_rfl) rfl (rng_none (by kernel_rfl) (by kernel_rfl)) (all_cons flotsamref07_Form_ok0 (all_nil)) rfl flotsamref07_Form_den

/-! ### flotsam/flotsamref08.Apart -/
def flotsamref08_Apart_s0r (v4 : Int) (c0 : Heap) (r48 : List Int) : Option (SRes (.cons cI (.cons cHeap (.cons (.sl cI) .nil))) .nil (.cons .bool .nil)) :=
  bif decide (v4 < (r48.length : Int)) then
    bif decide (0 ≤ v4) then
      bif decide (v4 < (r48.length : Int)) then
        (flotsamref08_Get (c0, r48.getD v4.toNat 0, ())).bind fun y2 =>
        bif decide (0 ≤ v4) then
          bif decide (v4 < (r48.length : Int)) then
            bif decide (0 ≤ (wi64 ((r48.getD v4.toNat 0).tdiv 32))) then
              bif decide ((wi64 ((r48.getD v4.toNat 0).tdiv 32)) < (c0.2.1.length : Int)) then
                bif y2.1.2.2.1 != (c0.2.1.getD (wi64 ((r48.getD v4.toNat 0).tdiv 32)).toNat (0, 0, 0, ())).2.1 then
                  some (.fin (.ret (false, ())))
                else
                some (.next (wi64 (v4 + 1), c0, r48, ()))
              else none
            else none
          else none
        else none
      else none
    else none
  else
  some (.fin (.out ()))
def flotsamref08_Apart_s0 (x : Int × Heap × (List Int) × Unit) : Option (SRes (.cons cI (.cons cHeap (.cons (.sl cI) .nil))) .nil (.cons .bool .nil)) := flotsamref08_Apart_s0r x.1 x.2.1 x.2.2.1
def flotsamref08_Apart_l0 (x : Int × Heap × (List Int) × Unit) : Option (LRes .nil (.cons .bool .nil)) := iterL (h := (.cons cI (.cons cHeap (.cons (.sl cI) .nil)))) (o := .nil) (r := (.cons .bool .nil)) flotsamref08_Apart_s0 9223372036854775808 x
def flotsamref08_Apart_r (a0 : Heap) : Option (Bool × Unit) :=
  (flotsamref08_List (a0, ())).bind fun y1 =>
  (flotsamref08_Apart_l0 (0, a0, y1.1, ())).bind fun s3 => match s3 with
  | .out s3 =>
    some (true, ())
  | .ret s3 =>
    some (s3.1, ())
def flotsamref08_Apart (x : Heap × Unit) : Option (Bool × Unit) := flotsamref08_Apart_r x.1
noncomputable def flotsamref08_Apart_sm : Sum := ⟨(.cons cHeap .nil), (.cons (.d .bool) .nil), flotsamref08_Apart⟩
noncomputable def flotsamref08_Apart_L0 : LoopSum := { hc := ⟨[], [1, 3, 4], [], [], [0], [48], 96⟩, h := ⟨[(1, (.pvar 0 [])), (3, (.row 48)), (4, (.d cI))], [(0, (.d cHeap))], [(48, cI, true)], 96⟩, xid := 0, oc := ⟨[], [], [], [], [], [], 96⟩, o := ⟨[], [], [], 96⟩, rc := ⟨[], [2], [], [], [], [], 96⟩, r := ⟨[(2, (.d .bool))], [], [], 96⟩, F := flotsamref08_Apart_l0 }
noncomputable def flotsamref08_Apart_S : List (Nat × Sum) := [(25, flotsamref08_List_sm), (72, flotsamref08_Get_sm)]
noncomputable def flotsamref08_Apart_fl : List (Nat × Func) := []
noncomputable def flotsamref08_Apart_es : List AE := [⟨8, 22, 0, 0, flotsamref08_Apart_L0⟩]
theorem flotsamref08_Apart_den0 : (fun x => denStep TEv (look1 flotsamref08_Apart_S) (look1 flotsamref08_Apart_fl) (annOf flotsamref08_Apart_es) 8 22 Go.Proofs.Tryd.f22.ntmps 0 (cat (bodyOf Go.Proofs.Tryd.f22) [true, true, false, true, false, false]) flotsamref08_Apart_L0 x) = flotsamref08_Apart_s0 := by kernel_rfl
theorem flotsamref08_Apart_den : (fun x => denFun TEv (look1 flotsamref08_Apart_S) (look1 flotsamref08_Apart_fl) (annOf flotsamref08_Apart_es) 8 22 Go.Proofs.Tryd.f22 flotsamref08_Apart_sm.a flotsamref08_Apart_sm.r x) = flotsamref08_Apart_sm.F := by kernel_rfl
theorem flotsamref08_Apart_ok0 : AEok Go.Proofs.Tryd.prog TEv (look1 flotsamref08_Apart_S) (look1 flotsamref08_Apart_fl) (annOf flotsamref08_Apart_es) ⟨8, 22, 0, 0, flotsamref08_Apart_L0⟩ := aeok_of 9223372036854775808 Go.Proofs.Tryd.func22 (by kernel_rfl) flotsamref08_Apart_den0 (by kernel_rfl)
theorem flotsamref08_Apart_sem : SemOf Go.Proofs.Tryd.prog 22 flotsamref08_Apart_sm :=
  semMk teOk (sl := flotsamref08_Apart_S) (all_cons flotsamref08_List_sem (all_cons flotsamref08_Get_sem all_nil)) (fl := flotsamref08_Apart_fl) (all_nil) (es := flotsamref08_Apart_es) Go.Proofs.Tryd.func22 (by kernel_rfl) rfl (rng_none (by kernel_rfl) (by kernel_rfl)) (all_cons flotsamref08_Apart_ok0 (all_nil)) rfl flotsamref08_Apart_den

/-! ### flotsam/flotsamref13.Right -/
def flotsamref13_Right_s0r (v3 : Int) (c0 : Grey) : Option (SRes (.cons cI (.cons cGrey .nil)) .nil (.cons .bool .nil)) :=
  bif decide (v3 < (c0.2.1.length : Int)) then
    bif decide (0 ≤ v3) then
      bif decide (v3 < (c0.2.1.length : Int)) then
        bif decide ((c0.2.1.getD v3.toNat 0) < 0) then
          some (.fin (.ret (false, ())))
        else
        some (.next (wi64 (v3 + 1), c0, ()))
      else none
    else none
  else
  some (.fin (.out ()))
def flotsamref13_Right_s0 (x : Int × Grey × Unit) : Option (SRes (.cons cI (.cons cGrey .nil)) .nil (.cons .bool .nil)) := flotsamref13_Right_s0r x.1 x.2.1
def flotsamref13_Right_l0 (x : Int × Grey × Unit) : Option (LRes .nil (.cons .bool .nil)) := iterL (h := (.cons cI (.cons cGrey .nil))) (o := .nil) (r := (.cons .bool .nil)) flotsamref13_Right_s0 9223372036854775808 x
def flotsamref13_Right_r (a0 : Grey) : Option (Bool × Unit) :=
  bif decide (a0.1 < 0) then
    some (false, ())
  else
  bif decide (a0.1 > 16) then
    some (false, ())
  else
  bif decide ((a0.2.1.length : Int) > a0.1) then
    some (false, ())
  else
  (flotsamref13_Right_l0 (0, a0, ())).bind fun s1 => match s1 with
  | .out s1 =>
    some (true, ())
  | .ret s1 =>
    some (s1.1, ())
def flotsamref13_Right (x : Grey × Unit) : Option (Bool × Unit) := flotsamref13_Right_r x.1
noncomputable def flotsamref13_Right_sm : Sum := ⟨(.cons cGrey .nil), (.cons (.d .bool) .nil), flotsamref13_Right⟩
noncomputable def flotsamref13_Right_L0 : LoopSum := { hc := ⟨[], [1, 3], [], [], [0], [], 304⟩, h := ⟨[(1, (.pvar 0 [])), (3, (.d cI))], [(0, (.d cGrey))], [], 304⟩, xid := 0, oc := ⟨[], [], [], [], [], [], 304⟩, o := ⟨[], [], [], 304⟩, rc := ⟨[], [2], [], [], [], [], 304⟩, r := ⟨[(2, (.d .bool))], [], [], 304⟩, F := flotsamref13_Right_l0 }
noncomputable def flotsamref13_Right_S : List (Nat × Sum) := []
noncomputable def flotsamref13_Right_fl : List (Nat × Func) := []
noncomputable def flotsamref13_Right_es : List AE := [⟨8, 23, 0, 0, flotsamref13_Right_L0⟩]
theorem flotsamref13_Right_den0 : (fun x => denStep TEv (look1 flotsamref13_Right_S) (look1 flotsamref13_Right_fl) (annOf flotsamref13_Right_es) 8 23 Go.Proofs.Tryd.f23.ntmps 0 (cat (bodyOf Go.Proofs.Tryd.f23) [true, true, false, true, false, false]) flotsamref13_Right_L0 x) = flotsamref13_Right_s0 := by kernel_rfl
theorem flotsamref13_Right_den : (fun x => denFun TEv (look1 flotsamref13_Right_S) (look1 flotsamref13_Right_fl) (annOf flotsamref13_Right_es) 8 23 Go.Proofs.Tryd.f23 flotsamref13_Right_sm.a flotsamref13_Right_sm.r x) = flotsamref13_Right_sm.F := by kernel_rfl
theorem flotsamref13_Right_ok0 : AEok Go.Proofs.Tryd.prog TEv (look1 flotsamref13_Right_S) (look1 flotsamref13_Right_fl) (annOf flotsamref13_Right_es) ⟨8, 23, 0, 0, flotsamref13_Right_L0⟩ := aeok_of 9223372036854775808 Go.Proofs.Tryd.func23 (by kernel_rfl) flotsamref13_Right_den0 (by kernel_rfl)
theorem flotsamref13_Right_sem : SemOf Go.Proofs.Tryd.prog 23 flotsamref13_Right_sm :=
  semMk teOk (sl := flotsamref13_Right_S) (all_nil) (fl := flotsamref13_Right_fl) (all_nil) (es := flotsamref13_Right_es) Go.Proofs.Tryd.func23 (by kernel_rfl) rfl (rng_none (by kernel_rfl) (by kernel_rfl)) (all_cons flotsamref13_Right_ok0 (all_nil)) rfl flotsamref13_Right_den

/-! ### flotsam/flotsamref01.Get -/
def flotsamref01_Get_r (a0 : Int) : Option (Val × Unit) :=
  bif a0 == 0 then
    some ((0, 0, ()), ())
  else
  bif (a0.tmod 2) == 1 then
    some ((1, wi64 (wu64 (a0.tdiv 2)), ()), ())
  else
  some ((2, wi64 (wu64 ((wu64 (a0.tdiv 2)) - 1)), ()), ())
def flotsamref01_Get (x : Int × Unit) : Option (Val × Unit) := flotsamref01_Get_r x.1
noncomputable def flotsamref01_Get_sm : Sum := ⟨(.cons (.int .u64) .nil), (.cons (.cons (.d cI) (.cons (.d cI) .nil)) .nil), flotsamref01_Get⟩
noncomputable def flotsamref01_Get_S : List (Nat × Sum) := []
noncomputable def flotsamref01_Get_fl : List (Nat × Func) := []
noncomputable def flotsamref01_Get_es : List AE := []
theorem flotsamref01_Get_den : (fun x => denFun TEv (look1 flotsamref01_Get_S) (look1 flotsamref01_Get_fl) (annOf flotsamref01_Get_es) 8 138 Go.Proofs.Tryd.f138 flotsamref01_Get_sm.a flotsamref01_Get_sm.r x) = flotsamref01_Get_sm.F := by kernel_rfl
theorem flotsamref01_Get_sem : SemOf Go.Proofs.Tryd.prog 138 flotsamref01_Get_sm :=
  semMk teOk (sl := flotsamref01_Get_S) (all_nil) (fl := flotsamref01_Get_fl) (all_nil) (es := flotsamref01_Get_es) Go.Proofs.Tryd.func138 (by kernel_rfl) rfl (rng_none (by kernel_rfl) (by kernel_rfl)) (all_nil) rfl flotsamref01_Get_den

/-! ### flotsam/flotsamref08.Field -/
def flotsamref08_Field_r (a0 : Heap) (a1 : Int) (a2 : Int) : Option (Val × Int × Unit) :=
  (flotsamref08_Get (a0, a1, ())).bind fun y1 =>
  bif !y1.2.1 then
    some ((0, 0, ()), 1, ())
  else
  bif decide (a2 < 0) then
    some ((0, 0, ()), 4, ())
  else
  bif decide (a2 ≥ y1.1.2.2.2.1) then
    some ((0, 0, ()), 4, ())
  else
  bif decide (0 ≤ (wi64 ((wi64 (a1 + 1)) + a2))) then
    bif decide ((wi64 ((wi64 (a1 + 1)) + a2)) < (a0.1.length : Int)) then
      (flotsamref01_Get (a0.1.getD (wi64 ((wi64 (a1 + 1)) + a2)).toNat 0, ())).bind fun y2 =>
      some ((y2.1.1, y2.1.2.1, ()), 0, ())
    else none
  else none
def flotsamref08_Field (x : Heap × Val) : Option (Val × Int × Unit) := flotsamref08_Field_r x.1 x.2.1 x.2.2.1
noncomputable def flotsamref08_Field_sm : Sum := ⟨(.cons cHeap cVal), (.cons (.cons (.d cI) (.cons (.d cI) .nil)) (.cons (.d cI) .nil)), flotsamref08_Field⟩
noncomputable def flotsamref08_Field_S : List (Nat × Sum) := [(72, flotsamref08_Get_sm), (138, flotsamref01_Get_sm)]
noncomputable def flotsamref08_Field_fl : List (Nat × Func) := []
noncomputable def flotsamref08_Field_es : List AE := []
theorem flotsamref08_Field_den : (fun x => denFun TEv (look1 flotsamref08_Field_S) (look1 flotsamref08_Field_fl) (annOf flotsamref08_Field_es) 8 75 Go.Proofs.Tryd.f75 flotsamref08_Field_sm.a flotsamref08_Field_sm.r x) = flotsamref08_Field_sm.F := by kernel_rfl
theorem flotsamref08_Field_sem : SemOf Go.Proofs.Tryd.prog 75 flotsamref08_Field_sm :=
  semMk teOk (sl := flotsamref08_Field_S) (all_cons flotsamref08_Get_sem (all_cons flotsamref01_Get_sem all_nil)) (fl := flotsamref08_Field_fl) (all_nil) (es := flotsamref08_Field_es) Go.Proofs.Tryd.func75 (by kernel_rfl) rfl (rng_none (by kernel_rfl) (by kernel_rfl)) (all_nil) rfl flotsamref08_Field_den

/-! ### flotsam/flotsamref08.Refs -/
def flotsamref08_Refs_s0r (v1 : Int) (v8 : Int) (c0 : Heap) (c144 : Hdr) (r208 : List Int) : Option (SRes (.cons cI (.cons cI (.cons cHeap (.cons cHdr (.cons (.sl cI) .nil))))) (.cons (.sl cI) .nil) .nil) :=
  bif decide (v8 < c144.2.2.2.1) then
    (flotsamref08_Field (c0, v1, v8, ())).bind fun y2 =>
    bif y2.1.1 == 2 then
      bif decide ((r208.length + 1) * 8 ≤ 140737488355328) then
        some (.next (v1, wi64 (v8 + 1), c0, c144, r208 ++ [y2.1.2.1], ()))
      else none
    else
    some (.next (v1, wi64 (v8 + 1), c0, c144, r208, ()))
  else
  some (.fin (.out (r208, ())))
def flotsamref08_Refs_s0 (x : Int × Int × Heap × Hdr × (List Int) × Unit) : Option (SRes (.cons cI (.cons cI (.cons cHeap (.cons cHdr (.cons (.sl cI) .nil))))) (.cons (.sl cI) .nil) .nil) := flotsamref08_Refs_s0r x.1 x.2.1 x.2.2.1 x.2.2.2.1 x.2.2.2.2.1
def flotsamref08_Refs_l0 (x : Int × Int × Heap × Hdr × (List Int) × Unit) : Option (LRes (.cons (.sl cI) .nil) .nil) := iterL (h := (.cons cI (.cons cI (.cons cHeap (.cons cHdr (.cons (.sl cI) .nil)))))) (o := (.cons (.sl cI) .nil)) (r := .nil) flotsamref08_Refs_s0 9223372036854775808 x
def flotsamref08_Refs_r (a0 : Heap) (a1 : Int) : Option ((List Int) × Unit) :=
  (flotsamref08_Get (a0, a1, ())).bind fun y1 =>
  (flotsamref08_Refs_l0 (a1, 0, a0, y1.1, [], ())).bind fun s3 => match s3 with
  | .out s3 =>
    some (s3.1, ())
  | .ret s3 =>
    none
def flotsamref08_Refs (x : Heap × Int × Unit) : Option ((List Int) × Unit) := flotsamref08_Refs_r x.1 x.2.1
noncomputable def flotsamref08_Refs_sm : Sum := ⟨(.cons cHeap (.cons cI .nil)), (.cons (.own cI) .nil), flotsamref08_Refs⟩
noncomputable def flotsamref08_Refs_L0 : LoopSum := { hc := ⟨[], [1, 2, 5, 6, 8], [(.tmp 5, cI)], [], [0, 144], [], 208⟩, h := ⟨[(1, (.d cI)), (2, (.pvar 0 [])), (5, (.row 208)), (6, (.pvar 144 [])), (8, (.d cI))], [(0, (.d cHeap)), (144, (.d cHdr))], [(208, cI, true)], 209⟩, xid := 0, oc := ⟨[], [5], [(.tmp 5, cI)], [], [], [], 208⟩, o := ⟨[(5, (.row 208))], [], [(208, cI, true)], 209⟩, rc := ⟨[], [], [], [], [208], [], 208⟩, r := ⟨[], [], [], 208⟩, F := flotsamref08_Refs_l0 }
noncomputable def flotsamref08_Refs_S : List (Nat × Sum) := [(72, flotsamref08_Get_sm), (75, flotsamref08_Field_sm)]
noncomputable def flotsamref08_Refs_fl : List (Nat × Func) := []
noncomputable def flotsamref08_Refs_es : List AE := [⟨8, 28, 0, 0, flotsamref08_Refs_L0⟩]
theorem flotsamref08_Refs_den0 : (fun x => denStep TEv (look1 flotsamref08_Refs_S) (look1 flotsamref08_Refs_fl) (annOf flotsamref08_Refs_es) 8 28 Go.Proofs.Tryd.f28.ntmps 0 (cat (bodyOf Go.Proofs.Tryd.f28) [true, true, true, false, true, false, false]) flotsamref08_Refs_L0 x) = flotsamref08_Refs_s0 := by kernel_rfl
theorem flotsamref08_Refs_den : (fun x => denFun TEv (look1 flotsamref08_Refs_S) (look1 flotsamref08_Refs_fl) (annOf flotsamref08_Refs_es) 8 28 Go.Proofs.Tryd.f28 flotsamref08_Refs_sm.a flotsamref08_Refs_sm.r x) = flotsamref08_Refs_sm.F := by kernel_rfl
theorem flotsamref08_Refs_ok0 : AEok Go.Proofs.Tryd.prog TEv (look1 flotsamref08_Refs_S) (look1 flotsamref08_Refs_fl) (annOf flotsamref08_Refs_es) ⟨8, 28, 0, 0, flotsamref08_Refs_L0⟩ := aeok_of 9223372036854775808 Go.Proofs.Tryd.func28 (by kernel_rfl) flotsamref08_Refs_den0 (by kernel_rfl)
theorem flotsamref08_Refs_sem : SemOf Go.Proofs.Tryd.prog 28 flotsamref08_Refs_sm :=
  semMk teOk (sl := flotsamref08_Refs_S) (all_cons flotsamref08_Get_sem (all_cons flotsamref08_Field_sem all_nil)) (fl := flotsamref08_Refs_fl) (all_nil) (es := flotsamref08_Refs_es) Go.Proofs.Tryd.func28 (by kernel_rfl) rfl (rng_none (by kernel_rfl) (by kernel_rfl)) (all_cons flotsamref08_Refs_ok0 (all_nil)) rfl flotsamref08_Refs_den

/-! ### flotsam/flotsamref08.In -/
def flotsamref08_In_s0r (v0 : List Int) (v1 : Int) (v5 : Int) : Option (SRes (.cons (.sl cI) cVal) .nil (.cons .bool .nil)) :=
  bif decide (v5 < (v0.length : Int)) then
    bif decide (0 ≤ v5) then
      bif decide (v5 < (v0.length : Int)) then
        bif (v0.getD v5.toNat 0) == v1 then
          some (.fin (.ret (true, ())))
        else
        some (.next (v0, v1, wi64 (v5 + 1), ()))
      else none
    else none
  else
  some (.fin (.out ()))
def flotsamref08_In_s0 (x : (List Int) × Val) : Option (SRes (.cons (.sl cI) cVal) .nil (.cons .bool .nil)) := flotsamref08_In_s0r x.1 x.2.1 x.2.2.1
def flotsamref08_In_l0 (x : (List Int) × Val) : Option (LRes .nil (.cons .bool .nil)) := iterL (h := (.cons (.sl cI) cVal)) (o := .nil) (r := (.cons .bool .nil)) flotsamref08_In_s0 9223372036854775808 x
def flotsamref08_In_r (a0 : List Int) (a1 : Int) : Option (Bool × Unit) :=
  (flotsamref08_In_l0 (a0, a1, 0, ())).bind fun s1 => match s1 with
  | .out s1 =>
    some (false, ())
  | .ret s1 =>
    some (s1.1, ())
def flotsamref08_In (x : (List Int) × Int × Unit) : Option (Bool × Unit) := flotsamref08_In_r x.1 x.2.1
noncomputable def flotsamref08_In_sm : Sum := ⟨(.cons (.sl cI) (.cons cI .nil)), (.cons (.d .bool) .nil), flotsamref08_In⟩
noncomputable def flotsamref08_In_L0 : LoopSum := { hc := ⟨[], [0, 1, 5], [], [], [], [], 32⟩, h := ⟨[(0, (.d (.sl cI))), (1, (.d cI)), (5, (.d cI))], [], [], 32⟩, xid := 0, oc := ⟨[], [], [], [], [], [], 32⟩, o := ⟨[], [], [], 32⟩, rc := ⟨[], [4], [], [], [], [], 32⟩, r := ⟨[(4, (.d .bool))], [], [], 32⟩, F := flotsamref08_In_l0 }
noncomputable def flotsamref08_In_S : List (Nat × Sum) := []
noncomputable def flotsamref08_In_fl : List (Nat × Func) := []
noncomputable def flotsamref08_In_es : List AE := [⟨8, 29, 0, 0, flotsamref08_In_L0⟩]
theorem flotsamref08_In_den0 : (fun x => denStep TEv (look1 flotsamref08_In_S) (look1 flotsamref08_In_fl) (annOf flotsamref08_In_es) 8 29 Go.Proofs.Tryd.f29.ntmps 0 (cat (bodyOf Go.Proofs.Tryd.f29) [true, false, true, false, false]) flotsamref08_In_L0 x) = flotsamref08_In_s0 := by kernel_rfl
theorem flotsamref08_In_den : (fun x => denFun TEv (look1 flotsamref08_In_S) (look1 flotsamref08_In_fl) (annOf flotsamref08_In_es) 8 29 Go.Proofs.Tryd.f29 flotsamref08_In_sm.a flotsamref08_In_sm.r x) = flotsamref08_In_sm.F := by kernel_rfl
theorem flotsamref08_In_ok0 : AEok Go.Proofs.Tryd.prog TEv (look1 flotsamref08_In_S) (look1 flotsamref08_In_fl) (annOf flotsamref08_In_es) ⟨8, 29, 0, 0, flotsamref08_In_L0⟩ := aeok_of 9223372036854775808 Go.Proofs.Tryd.func29 (by kernel_rfl) flotsamref08_In_den0 (by kernel_rfl)
theorem flotsamref08_In_sem : SemOf Go.Proofs.Tryd.prog 29 flotsamref08_In_sm :=
  semMk teOk (sl := flotsamref08_In_S) (all_nil) (fl := flotsamref08_In_fl) (all_nil) (es := flotsamref08_In_es) Go.Proofs.Tryd.func29 (by kernel_rfl) rfl (rng_none (by kernel_rfl) (by kernel_rfl)) (all_cons flotsamref08_In_ok0 (all_nil)) rfl flotsamref08_In_den

/-! ### flotsam/flotsamlaw16.ShadeBlack -/
def flotsamlaw16_ShadeBlack_s0r (v2 : List Val) (v9 : Bool) (v11 : Int) (v12 : Int) (v13 : Bool) (v14 : Int) (c0 : Heap) (c16 : Grey) (c528 : Heap) (c544 : Grey) (r624 : List Int) : Option (SRes (.cons (.sl cVal) (.cons .bool (.cons cI (.cons cI (.cons .bool (.cons cI (.cons cHeap (.cons cGrey (.cons cHeap (.cons cGrey (.cons (.sl cI) .nil))))))))))) (.cons (.sl cVal) (.cons .bool (.cons cI (.cons cI (.cons .bool (.cons cHeap (.cons cGrey (.cons cHeap (.cons cGrey (.cons (.sl cI) .nil)))))))))) .nil) :=
  bif decide (v14 < (v2.length : Int)) then
    bif v13 then
      some (.next (v2, v9, v11, v12, true, wi64 (v14 + 1), c0, c16, c528, c544, r624, ()))
    else
    bif decide (0 ≤ v14) then
      bif decide (v14 < (v2.length : Int)) then
        bif (v2.getD v14.toNat (0, 0, ())).1 == 2 then
          bif decide (0 ≤ v14) then
            bif decide (v14 < (v2.length : Int)) then
              bif decide (0 ≤ v12) then
                bif decide (v12 < (r624.length : Int)) then
                  some (.next (v2, v9, v11, v12, (v2.getD v14.toNat (0, 0, ())).2.1 == (r624.getD v12.toNat 0), wi64 (v14 + 1), c0, c16, c528, c544, r624, ()))
                else none
              else none
            else none
          else none
        else
        some (.next (v2, v9, v11, v12, false, wi64 (v14 + 1), c0, c16, c528, c544, r624, ()))
      else none
    else none
  else
  some (.fin (.out (v2, v9, v11, v12, v13, c0, c16, c528, c544, r624, ())))
def flotsamlaw16_ShadeBlack_s0 (x : (List Val) × Bool × Int × Int × Bool × Int × Heap × Grey × Heap × Grey × (List Int) × Unit) : Option (SRes (.cons (.sl cVal) (.cons .bool (.cons cI (.cons cI (.cons .bool (.cons cI (.cons cHeap (.cons cGrey (.cons cHeap (.cons cGrey (.cons (.sl cI) .nil))))))))))) (.cons (.sl cVal) (.cons .bool (.cons cI (.cons cI (.cons .bool (.cons cHeap (.cons cGrey (.cons cHeap (.cons cGrey (.cons (.sl cI) .nil)))))))))) .nil) := flotsamlaw16_ShadeBlack_s0r x.1 x.2.1 x.2.2.1 x.2.2.2.1 x.2.2.2.2.1 x.2.2.2.2.2.1 x.2.2.2.2.2.2.1 x.2.2.2.2.2.2.2.1 x.2.2.2.2.2.2.2.2.1 x.2.2.2.2.2.2.2.2.2.1 x.2.2.2.2.2.2.2.2.2.2.1
def flotsamlaw16_ShadeBlack_l0 (x : (List Val) × Bool × Int × Int × Bool × Int × Heap × Grey × Heap × Grey × (List Int) × Unit) : Option (LRes (.cons (.sl cVal) (.cons .bool (.cons cI (.cons cI (.cons .bool (.cons cHeap (.cons cGrey (.cons cHeap (.cons cGrey (.cons (.sl cI) .nil)))))))))) .nil) := iterL (h := (.cons (.sl cVal) (.cons .bool (.cons cI (.cons cI (.cons .bool (.cons cI (.cons cHeap (.cons cGrey (.cons cHeap (.cons cGrey (.cons (.sl cI) .nil)))))))))))) (o := (.cons (.sl cVal) (.cons .bool (.cons cI (.cons cI (.cons .bool (.cons cHeap (.cons cGrey (.cons cHeap (.cons cGrey (.cons (.sl cI) .nil))))))))))) (r := .nil) flotsamlaw16_ShadeBlack_s0 9223372036854775808 x
def flotsamlaw16_ShadeBlack_s1r (v2 : List Val) (v9 : Bool) (v11 : Int) (v12 : Int) (c0 : Heap) (c16 : Grey) (c528 : Heap) (c544 : Grey) (r624 : List Int) : Option (SRes (.cons (.sl cVal) (.cons .bool (.cons cI (.cons cI (.cons cHeap (.cons cGrey (.cons cHeap (.cons cGrey (.cons (.sl cI) .nil))))))))) (.cons .bool (.cons cI (.cons cGrey (.cons cGrey .nil)))) (.cons .bool .nil)) :=
  bif decide (v12 < (r624.length : Int)) then
    (flotsamlaw16_ShadeBlack_l0 (v2, v9, v11, v12, false, 0, c0, c16, c528, c544, r624, ())).bind fun s14 => match s14 with
    | .out s14 =>
      bif decide (0 ≤ s14.2.2.2.1) then
        bif decide (s14.2.2.2.1 < (s14.2.2.2.2.2.2.2.2.2.1.length : Int)) then
          (flotsamref08_Black (s14.2.2.2.2.2.1, s14.2.2.2.2.2.2.2.2.2.1.getD s14.2.2.2.1.toNat 0, ())).bind fun y15 =>
          bif decide (0 ≤ s14.2.2.2.1) then
            bif decide (s14.2.2.2.1 < (s14.2.2.2.2.2.2.2.2.2.1.length : Int)) then
              (flotsamref08_Black (s14.2.2.2.2.2.2.2.1, s14.2.2.2.2.2.2.2.2.2.1.getD s14.2.2.2.1.toNat 0, ())).bind fun y16 =>
              bif y15.1 then
                bif !(y16.1 == true) then
                  some (.fin (.ret (false, ())))
                else
                bif decide (0 ≤ s14.2.2.2.1) then
                  bif decide (s14.2.2.2.1 < (s14.2.2.2.2.2.2.2.2.2.1.length : Int)) then
                    (flotsamref08_Refs (s14.2.2.2.2.2.1, s14.2.2.2.2.2.2.2.2.2.1.getD s14.2.2.2.1.toNat 0, ())).bind fun y17 =>
                    bif decide (0 ≤ s14.2.2.2.1) then
                      bif decide (s14.2.2.2.1 < (s14.2.2.2.2.2.2.2.2.2.1.length : Int)) then
                        (flotsamref08_Refs (s14.2.2.2.2.2.2.2.1, s14.2.2.2.2.2.2.2.2.2.1.getD s14.2.2.2.1.toNat 0, ())).bind fun y18 =>
                        (flotsamref08_Ints (y17.1, y18.1, ())).bind fun y19 =>
                        bif !y19.1 then
                          some (.fin (.ret (false, ())))
                        else
                        bif !y15.1 then
                          bif s14.2.2.2.2.1 then
                            bif decide (0 ≤ s14.2.2.2.1) then
                              bif decide (s14.2.2.2.1 < (s14.2.2.2.2.2.2.2.2.2.1.length : Int)) then
                                (flotsamref08_In (s14.2.2.2.2.2.2.2.2.1.2.1, s14.2.2.2.2.2.2.2.2.2.1.getD s14.2.2.2.1.toNat 0, ())).bind fun y20 =>
                                bif !y20.1 then
                                  bif !s14.2.1 then
                                    some (.fin (.ret (false, ())))
                                  else
                                  some (.next (s14.1, s14.2.1, wi64 (s14.2.2.1 + 1), wi64 (s14.2.2.2.1 + 1), s14.2.2.2.2.2.1, s14.2.2.2.2.2.2.1, s14.2.2.2.2.2.2.2.1, s14.2.2.2.2.2.2.2.2.1, s14.2.2.2.2.2.2.2.2.2.1, ()))
                                else
                                some (.next (s14.1, s14.2.1, wi64 (s14.2.2.1 + 1), wi64 (s14.2.2.2.1 + 1), s14.2.2.2.2.2.1, s14.2.2.2.2.2.2.1, s14.2.2.2.2.2.2.2.1, s14.2.2.2.2.2.2.2.2.1, s14.2.2.2.2.2.2.2.2.2.1, ()))
                              else none
                            else none
                          else
                          some (.next (s14.1, s14.2.1, s14.2.2.1, wi64 (s14.2.2.2.1 + 1), s14.2.2.2.2.2.1, s14.2.2.2.2.2.2.1, s14.2.2.2.2.2.2.2.1, s14.2.2.2.2.2.2.2.2.1, s14.2.2.2.2.2.2.2.2.2.1, ()))
                        else
                        some (.next (s14.1, s14.2.1, s14.2.2.1, wi64 (s14.2.2.2.1 + 1), s14.2.2.2.2.2.1, s14.2.2.2.2.2.2.1, s14.2.2.2.2.2.2.2.1, s14.2.2.2.2.2.2.2.2.1, s14.2.2.2.2.2.2.2.2.2.1, ()))
                      else none
                    else none
                  else none
                else none
              else
              bif !(y16.1 == s14.2.2.2.2.1) then
                some (.fin (.ret (false, ())))
              else
              bif decide (0 ≤ s14.2.2.2.1) then
                bif decide (s14.2.2.2.1 < (s14.2.2.2.2.2.2.2.2.2.1.length : Int)) then
                  (flotsamref08_Refs (s14.2.2.2.2.2.1, s14.2.2.2.2.2.2.2.2.2.1.getD s14.2.2.2.1.toNat 0, ())).bind fun y21 =>
                  bif decide (0 ≤ s14.2.2.2.1) then
                    bif decide (s14.2.2.2.1 < (s14.2.2.2.2.2.2.2.2.2.1.length : Int)) then
                      (flotsamref08_Refs (s14.2.2.2.2.2.2.2.1, s14.2.2.2.2.2.2.2.2.2.1.getD s14.2.2.2.1.toNat 0, ())).bind fun y22 =>
                      (flotsamref08_Ints (y21.1, y22.1, ())).bind fun y23 =>
                      bif !y23.1 then
                        some (.fin (.ret (false, ())))
                      else
                      bif !y15.1 then
                        bif s14.2.2.2.2.1 then
                          bif decide (0 ≤ s14.2.2.2.1) then
                            bif decide (s14.2.2.2.1 < (s14.2.2.2.2.2.2.2.2.2.1.length : Int)) then
                              (flotsamref08_In (s14.2.2.2.2.2.2.2.2.1.2.1, s14.2.2.2.2.2.2.2.2.2.1.getD s14.2.2.2.1.toNat 0, ())).bind fun y24 =>
                              bif !y24.1 then
                                bif !s14.2.1 then
                                  some (.fin (.ret (false, ())))
                                else
                                some (.next (s14.1, s14.2.1, wi64 (s14.2.2.1 + 1), wi64 (s14.2.2.2.1 + 1), s14.2.2.2.2.2.1, s14.2.2.2.2.2.2.1, s14.2.2.2.2.2.2.2.1, s14.2.2.2.2.2.2.2.2.1, s14.2.2.2.2.2.2.2.2.2.1, ()))
                              else
                              some (.next (s14.1, s14.2.1, wi64 (s14.2.2.1 + 1), wi64 (s14.2.2.2.1 + 1), s14.2.2.2.2.2.1, s14.2.2.2.2.2.2.1, s14.2.2.2.2.2.2.2.1, s14.2.2.2.2.2.2.2.2.1, s14.2.2.2.2.2.2.2.2.2.1, ()))
                            else none
                          else none
                        else
                        some (.next (s14.1, s14.2.1, s14.2.2.1, wi64 (s14.2.2.2.1 + 1), s14.2.2.2.2.2.1, s14.2.2.2.2.2.2.1, s14.2.2.2.2.2.2.2.1, s14.2.2.2.2.2.2.2.2.1, s14.2.2.2.2.2.2.2.2.2.1, ()))
                      else
                      some (.next (s14.1, s14.2.1, s14.2.2.1, wi64 (s14.2.2.2.1 + 1), s14.2.2.2.2.2.1, s14.2.2.2.2.2.2.1, s14.2.2.2.2.2.2.2.1, s14.2.2.2.2.2.2.2.2.1, s14.2.2.2.2.2.2.2.2.2.1, ()))
                    else none
                  else none
                else none
              else none
            else none
          else none
        else none
      else none
    | .ret s14 =>
      none
  else
  some (.fin (.out (v9, v11, c16, c544, ())))
def flotsamlaw16_ShadeBlack_s1 (x : (List Val) × Bool × Int × Int × Heap × Grey × Heap × Grey × (List Int) × Unit) : Option (SRes (.cons (.sl cVal) (.cons .bool (.cons cI (.cons cI (.cons cHeap (.cons cGrey (.cons cHeap (.cons cGrey (.cons (.sl cI) .nil))))))))) (.cons .bool (.cons cI (.cons cGrey (.cons cGrey .nil)))) (.cons .bool .nil)) := flotsamlaw16_ShadeBlack_s1r x.1 x.2.1 x.2.2.1 x.2.2.2.1 x.2.2.2.2.1 x.2.2.2.2.2.1 x.2.2.2.2.2.2.1 x.2.2.2.2.2.2.2.1 x.2.2.2.2.2.2.2.2.1
def flotsamlaw16_ShadeBlack_l1 (x : (List Val) × Bool × Int × Int × Heap × Grey × Heap × Grey × (List Int) × Unit) : Option (LRes (.cons .bool (.cons cI (.cons cGrey (.cons cGrey .nil)))) (.cons .bool .nil)) := iterL (h := (.cons (.sl cVal) (.cons .bool (.cons cI (.cons cI (.cons cHeap (.cons cGrey (.cons cHeap (.cons cGrey (.cons (.sl cI) .nil)))))))))) (o := (.cons .bool (.cons cI (.cons cGrey (.cons cGrey .nil))))) (r := (.cons .bool .nil)) flotsamlaw16_ShadeBlack_s1 9223372036854775808 x
def flotsamlaw16_ShadeBlack_r (a0 : Heap) (a1 : Grey) (a2 : List Val) : Option (Bool × Unit) :=
  (flotsamlaw16_awake ()).bind fun y1 =>
  bif !y1.1 then
    (flotsamlaw16_awake ()).bind fun y2 =>
    some (y2.1, ())
  else
  (flotsamref07_Form (a0, ())).bind fun y3 =>
  bif !y3.1 then
    (flotsamlaw16_awake ()).bind fun y4 =>
    some (y4.1, ())
  else
  (flotsamref08_Apart (a0, ())).bind fun y5 =>
  bif !y5.1 then
    (flotsamlaw16_awake ()).bind fun y6 =>
    some (y6.1, ())
  else
  (flotsamref13_Right (a1, ())).bind fun y7 =>
  bif !y7.1 then
    (flotsamlaw16_awake ()).bind fun y8 =>
    some (y8.1, ())
  else
  bif decide ((a2.length : Int) > 100) then
    (flotsamlaw16_awake ()).bind fun y9 =>
    some (y9.1, ())
  else
  (shade_All (a0, a1, a2, ())).bind fun y10 =>
  (flotsamref08_List (a0, ())).bind fun y11 =>
  (flotsamref08_List (y10.1, ())).bind fun y12 =>
  (flotsamref08_Ints (y11.1, y12.1, ())).bind fun y13 =>
  bif !y13.1 then
    some (false, ())
  else
  (flotsamlaw16_ShadeBlack_l1 (a2, y10.2.2.1, 0, 0, a0, a1, y10.1, y10.2.1, y11.1, ())).bind fun s25 => match s25 with
  | .out s25 =>
    bif s25.1 == (decide (s25.2.1 > (wi64 (s25.2.2.1.1 - (s25.2.2.1.2.1.length : Int))))) then
      bif (s25.2.2.2.1.2.1.length : Int) == (wi64 ((s25.2.2.1.2.1.length : Int) + (bif decide ((wi64 (s25.2.2.1.1 - (s25.2.2.1.2.1.length : Int))) < s25.2.1) then wi64 (s25.2.2.1.1 - (s25.2.2.1.2.1.length : Int)) else s25.2.1))) then
        some (s25.2.2.2.1.1 == s25.2.2.1.1, ())
      else
      some (false, ())
    else
    some (false, ())
  | .ret s25 =>
    some (s25.1, ())
def flotsamlaw16_ShadeBlack (x : Heap × Grey × (List Val) × Unit) : Option (Bool × Unit) := flotsamlaw16_ShadeBlack_r x.1 x.2.1 x.2.2.1
noncomputable def flotsamlaw16_ShadeBlack_sm : Sum := ⟨(.cons cHeap (.cons cGrey (.cons (.sl cVal) .nil))), (.cons (.d .bool) .nil), flotsamlaw16_ShadeBlack⟩
noncomputable def flotsamlaw16_ShadeBlack_L0 : LoopSum := { hc := ⟨[], [2, 3, 4, 7, 8, 9, 10, 11, 12, 13, 14], [], [], [0, 16, 528, 544], [624], 864⟩, h := ⟨[(2, (.d (.sl cVal))), (3, (.pvar 0 [])), (4, (.pvar 16 [])), (7, (.pvar 528 [])), (8, (.pvar 544 [])), (9, (.d .bool)), (10, (.row 624)), (11, (.d cI)), (12, (.d cI)), (13, (.d .bool)), (14, (.d cI))], [(0, (.d cHeap)), (16, (.d cGrey)), (528, (.d cHeap)), (544, (.d cGrey))], [(624, cI, true)], 864⟩, xid := 2, oc := ⟨[], [2, 3, 4, 7, 8, 9, 10, 11, 12, 13], [], [], [0, 16, 528, 544], [624], 864⟩, o := ⟨[(2, (.d (.sl cVal))), (3, (.pvar 0 [])), (4, (.pvar 16 [])), (7, (.pvar 528 [])), (8, (.pvar 544 [])), (9, (.d .bool)), (10, (.row 624)), (11, (.d cI)), (12, (.d cI)), (13, (.d .bool))], [(0, (.d cHeap)), (16, (.d cGrey)), (528, (.d cHeap)), (544, (.d cGrey))], [(624, cI, true)], 864⟩, rc := ⟨[], [], [], [], [864], [], 864⟩, r := ⟨[], [], [], 864⟩, F := flotsamlaw16_ShadeBlack_l0 }
noncomputable def flotsamlaw16_ShadeBlack_L1 : LoopSum := { hc := ⟨[], [2, 3, 4, 7, 8, 9, 10, 11, 12], [], [], [0, 16, 528, 544], [624], 768⟩, h := ⟨[(2, (.d (.sl cVal))), (3, (.pvar 0 [])), (4, (.pvar 16 [])), (7, (.pvar 528 [])), (8, (.pvar 544 [])), (9, (.d .bool)), (10, (.row 624)), (11, (.d cI)), (12, (.d cI))], [(0, (.d cHeap)), (16, (.d cGrey)), (528, (.d cHeap)), (544, (.d cGrey))], [(624, cI, true)], 768⟩, xid := 0, oc := ⟨[], [4, 8, 9, 11], [], [], [16, 544], [], 768⟩, o := ⟨[(4, (.pvar 16 [])), (8, (.pvar 544 [])), (9, (.d .bool)), (11, (.d cI))], [(16, (.d cGrey)), (544, (.d cGrey))], [], 768⟩, rc := ⟨[], [6], [], [], [], [], 768⟩, r := ⟨[(6, (.d .bool))], [], [], 768⟩, F := flotsamlaw16_ShadeBlack_l1 }
noncomputable def flotsamlaw16_ShadeBlack_S : List (Nat × Sum) := [(20, flotsamlaw16_awake_sm), (21, flotsamref07_Form_sm), (22, flotsamref08_Apart_sm), (23, flotsamref13_Right_sm), (24, shade_All_sm), (25, flotsamref08_List_sm), (26, flotsamref08_Ints_sm), (27, flotsamref08_Black_sm), (28, flotsamref08_Refs_sm), (29, flotsamref08_In_sm)]
noncomputable def flotsamlaw16_ShadeBlack_fl : List (Nat × Func) := []
noncomputable def flotsamlaw16_ShadeBlack_es : List AE := [⟨8, 3, 0, 2, flotsamlaw16_ShadeBlack_L0⟩, ⟨8, 3, 0, 0, flotsamlaw16_ShadeBlack_L1⟩]
theorem flotsamlaw16_ShadeBlack_den0 : (fun x => denStep TEv (look1 flotsamlaw16_ShadeBlack_S) (look1 flotsamlaw16_ShadeBlack_fl) (annOf flotsamlaw16_ShadeBlack_es) 8 3 Go.Proofs.Tryd.f3.ntmps 0 (cat (bodyOf Go.Proofs.Tryd.f3) [true, true, true, true, true, true, false, true, false, false, true, false, false, true, false, true, false, false]) flotsamlaw16_ShadeBlack_L0 x) = flotsamlaw16_ShadeBlack_s0 := by kernel_rfl
theorem flotsamlaw16_ShadeBlack_den1 : (fun x => denStep TEv (look1 flotsamlaw16_ShadeBlack_S) (look1 flotsamlaw16_ShadeBlack_fl) (annOf flotsamlaw16_ShadeBlack_es) 8 3 Go.Proofs.Tryd.f3.ntmps 0 (cat (bodyOf Go.Proofs.Tryd.f3) [true, true, true, true, true, true, false, true, false, false]) flotsamlaw16_ShadeBlack_L1 x) = flotsamlaw16_ShadeBlack_s1 := by kernel_rfl
theorem flotsamlaw16_ShadeBlack_den : (fun x => denFun TEv (look1 flotsamlaw16_ShadeBlack_S) (look1 flotsamlaw16_ShadeBlack_fl) (annOf flotsamlaw16_ShadeBlack_es) 8 3 Go.Proofs.Tryd.f3 flotsamlaw16_ShadeBlack_sm.a flotsamlaw16_ShadeBlack_sm.r x) = flotsamlaw16_ShadeBlack_sm.F := by kernel_rfl
theorem flotsamlaw16_ShadeBlack_ok0 : AEok Go.Proofs.Tryd.prog TEv (look1 flotsamlaw16_ShadeBlack_S) (look1 flotsamlaw16_ShadeBlack_fl) (annOf flotsamlaw16_ShadeBlack_es) ⟨8, 3, 0, 2, flotsamlaw16_ShadeBlack_L0⟩ := aeok_of 9223372036854775808 Go.Proofs.Tryd.func3 (by kernel_rfl) flotsamlaw16_ShadeBlack_den0 (by kernel_rfl)
theorem flotsamlaw16_ShadeBlack_ok1 : AEok Go.Proofs.Tryd.prog TEv (look1 flotsamlaw16_ShadeBlack_S) (look1 flotsamlaw16_ShadeBlack_fl) (annOf flotsamlaw16_ShadeBlack_es) ⟨8, 3, 0, 0, flotsamlaw16_ShadeBlack_L1⟩ := aeok_of 9223372036854775808 Go.Proofs.Tryd.func3 (by kernel_rfl) flotsamlaw16_ShadeBlack_den1 (by kernel_rfl)
theorem flotsamlaw16_ShadeBlack_sem : SemOf Go.Proofs.Tryd.prog 3 flotsamlaw16_ShadeBlack_sm :=
  semMk teOk (sl := flotsamlaw16_ShadeBlack_S) (all_cons flotsamlaw16_awake_sem (all_cons flotsamref07_Form_sem (all_cons flotsamref08_Apart_sem (all_cons flotsamref13_Right_sem (all_cons shade_All_sem (all_cons flotsamref08_List_sem (all_cons flotsamref08_Ints_sem (all_cons flotsamref08_Black_sem (all_cons flotsamref08_Refs_sem (all_cons flotsamref08_In_sem all_nil)))))))))) (fl := flotsamlaw16_ShadeBlack_fl) (all_nil) (es := flotsamlaw16_ShadeBlack_es) Go.Proofs.Tryd.func3 (by kernel_rfl) rfl (rng_none (by kernel_rfl) (by kernel_rfl)) (all_cons flotsamlaw16_ShadeBlack_ok0 (all_cons flotsamlaw16_ShadeBlack_ok1 (all_nil))) rfl flotsamlaw16_ShadeBlack_den
end Go.Proofs.YtdfhopakojmjkaaDoor.Den
