/- What functions come to. Printed by a program of this session. -/
import Derived.Test.YtebdioogklmeaaaDoorDenF3
namespace Go.Proofs.YtebdioogklmeaaaDoor.Den
open Go
set_option maxRecDepth 100000
set_option linter.unusedVariables false
/-! ### flotsam/flotsamlaw11.awake -/
def flotsamlaw11_awake_r  : Option (Bool × Unit) :=
  (flotsamref11_Played (2, 2, [], ())).bind fun y1 =>
  (take_Take (y1.1, y1.2.1, 0, 1, ())).bind fun y2 =>
  (take_Take (y2.1, y2.2.1, 1, 0, ())).bind fun y3 =>
  (take_Take (y3.1, y3.2.1, 0, 9, ())).bind fun y4 =>
  (take_Take (y3.1, y3.2.1, 0, 1, ())).bind fun y5 =>
  bif y2.2.2.2.1 then
    bif y2.2.2.1 == 0 then
      bif y3.2.2.2.1 then
        bif y3.2.2.1 == 32 then
          bif !y4.2.2.2.1 then
            bif y5.2.2.2.1 then
              bif y5.2.2.1 == 2 then
                (take_Right (y5.1, y5.2.1, ())).bind fun y6 =>
                bif y6.1 then
                  (take_Kept (y5.2.1, 1, ())).bind fun y7 =>
                  bif y7.1 then
                    (take_Kept (y1.2.1, 0, ())).bind fun y8 =>
                    bif !y8.1 then
                      (take_Kept (y1.2.1, (-1), ())).bind fun y9 =>
                      bif !y9.1 then
                        bif decide (0 < (y5.2.1.length : Int)) then
                          bif ((y5.2.1.getD 0 (List.replicate 4 0)).getD 0 0) == 0 then
                            bif decide (1 < (y5.2.1.length : Int)) then
                              bif ((y5.2.1.getD 1 (List.replicate 4 0)).getD 0 0) == 1 then
                                (take_Right (y1.1, y5.2.1, ())).bind fun y10 =>
                                some (!y10.1, ())
                              else
                              some (false, ())
                            else none
                          else
                          some (false, ())
                        else none
                      else
                      some (false, ())
                    else
                    some (false, ())
                  else
                  some (false, ())
                else
                some (false, ())
              else
              some (false, ())
            else
            some (false, ())
          else
          some (false, ())
        else
        some (false, ())
      else
      some (false, ())
    else
    some (false, ())
  else
  some (false, ())
def flotsamlaw11_awake (x : Unit) : Option (Bool × Unit) := flotsamlaw11_awake_r 
noncomputable def flotsamlaw11_awake_sm : Sum := ⟨.nil, (.cons (.d .bool) .nil), flotsamlaw11_awake⟩
noncomputable def flotsamlaw11_awake_S : List (Nat × Sum) := [(11, take_Right_sm), (13, take_Kept_sm), (18, take_Take_sm), (22, flotsamref11_Played_sm)]
noncomputable def flotsamlaw11_awake_fl : List (Nat × Func) := []
noncomputable def flotsamlaw11_awake_es : List AE := []
theorem flotsamlaw11_awake_den : (fun x => denFun TEv (look1 flotsamlaw11_awake_S) (look1 flotsamlaw11_awake_fl) (annOf flotsamlaw11_awake_es) 8 9 Go.Proofs.Tryd.f9 flotsamlaw11_awake_sm.a flotsamlaw11_awake_sm.r x) = flotsamlaw11_awake_sm.F := by kernel_rfl
theorem flotsamlaw11_awake_sem : SemOf Go.Proofs.Tryd.prog 9 flotsamlaw11_awake_sm :=
  semMk teOk (sl := flotsamlaw11_awake_S) (all_cons take_Right_sem (all_cons take_Kept_sem (all_cons take_Take_sem (all_cons flotsamref11_Played_sem all_nil)))) (fl := flotsamlaw11_awake_fl) (all_nil) (es := flotsamlaw11_awake_es) Go.Proofs.Tryd.func9 (by kernel_rfl) rfl (all_nil) rfl flotsamlaw11_awake_den

/-! ### flotsam/flotsamref06.Right -/
def flotsamref06_Right_s0r (v3 : Int) (c0 : Span) : Option (SRes (.cons cI (.cons cSpan .nil)) .nil (.cons .bool .nil)) :=
  bif decide (v3 < 32) then
    (flotsamref03_Has (c0.2.2.1, v3, ())).bind fun y3 =>
    bif y3.1 then
      some (.fin (.ret (false, ())))
    else
    some (.next (wi64 (v3 + 1), c0, ()))
  else
  some (.fin (.out ()))
def flotsamref06_Right_s0 (x : Int × Span × Unit) : Option (SRes (.cons cI (.cons cSpan .nil)) .nil (.cons .bool .nil)) := flotsamref06_Right_s0r x.1 x.2.1
def flotsamref06_Right_l0 (x : Int × Span × Unit) : Option (LRes .nil (.cons .bool .nil)) := iterL (h := (.cons cI (.cons cSpan .nil))) (o := .nil) (r := (.cons .bool .nil)) flotsamref06_Right_s0 9223372036854775808 x
def flotsamref06_Right_r (a0 : Span) : Option (Bool × Unit) :=
  bif a0.1 == 0 then
    bif a0.2.1 == 0 then
      some (a0.2.2.1 == 0, ())
    else
    some (false, ())
  else
  (flotsamref06_InUse (a0, ())).bind fun y1 =>
  bif !y1.1 then
    some (false, ())
  else
  bif decide (a0.2.1 < 0) then
    some (false, ())
  else
  bif decide (a0.2.1 > 3) then
    some (false, ())
  else
  (flotsamref04_Blocks (a0.2.1, ())).bind fun y2 =>
  (flotsamref06_Right_l0 (y2.1, a0, ())).bind fun s4 => match s4 with
  | .out s4 =>
    some (true, ())
  | .ret s4 =>
    some (s4.1, ())
def flotsamref06_Right (x : Span × Unit) : Option (Bool × Unit) := flotsamref06_Right_r x.1
noncomputable def flotsamref06_Right_sm : Sum := ⟨(.cons cSpan .nil), (.cons (.d .bool) .nil), flotsamref06_Right⟩
noncomputable def flotsamref06_Right_L0 : LoopSum := { hc := ⟨[], [1, 3], [], [], [0], [], 352⟩, h := ⟨[(1, (.pvar 0 [])), (3, (.d cI))], [(0, (.d cSpan))], [], 352⟩, xid := 0, oc := ⟨[], [], [], [], [], [], 352⟩, o := ⟨[], [], [], 352⟩, rc := ⟨[], [2], [], [], [], [], 352⟩, r := ⟨[(2, (.d .bool))], [], [], 352⟩, F := flotsamref06_Right_l0 }
noncomputable def flotsamref06_Right_S : List (Nat × Sum) := [(45, flotsamref04_Blocks_sm), (48, flotsamref06_InUse_sm), (49, flotsamref03_Has_sm)]
noncomputable def flotsamref06_Right_fl : List (Nat × Func) := []
noncomputable def flotsamref06_Right_es : List AE := [⟨8, 25, 0, 0, flotsamref06_Right_L0⟩]
theorem flotsamref06_Right_den0 : (fun x => denStep TEv (look1 flotsamref06_Right_S) (look1 flotsamref06_Right_fl) (annOf flotsamref06_Right_es) 8 25 Go.Proofs.Tryd.f25.ntmps 0 (cat (bodyOf Go.Proofs.Tryd.f25) [true, true, true, false, true, false, false]) flotsamref06_Right_L0 x) = flotsamref06_Right_s0 := by kernel_rfl
theorem flotsamref06_Right_den : (fun x => denFun TEv (look1 flotsamref06_Right_S) (look1 flotsamref06_Right_fl) (annOf flotsamref06_Right_es) 8 25 Go.Proofs.Tryd.f25 flotsamref06_Right_sm.a flotsamref06_Right_sm.r x) = flotsamref06_Right_sm.F := by kernel_rfl
theorem flotsamref06_Right_ok0 : AEok Go.Proofs.Tryd.prog TEv (look1 flotsamref06_Right_S) (look1 flotsamref06_Right_fl) (annOf flotsamref06_Right_es) ⟨8, 25, 0, 0, flotsamref06_Right_L0⟩ := aeok_of 9223372036854775808 Go.Proofs.Tryd.func25 (by kernel_rfl) flotsamref06_Right_den0 (by kernel_rfl)
theorem flotsamref06_Right_sem : SemOf Go.Proofs.Tryd.prog 25 flotsamref06_Right_sm :=
  semMk teOk (sl := flotsamref06_Right_S) (all_cons flotsamref04_Blocks_sem (all_cons flotsamref06_InUse_sem (all_cons flotsamref03_Has_sem all_nil))) (fl := flotsamref06_Right_fl) (all_nil) (es := flotsamref06_Right_es) Go.Proofs.Tryd.func25 (by kernel_rfl) rfl (all_cons flotsamref06_Right_ok0 (all_nil)) rfl flotsamref06_Right_den

/-! ### flotsam/flotsamref07.Form -/
def flotsamref07_Form_s0r (v3 : Int) (c0 : Heap) : Option (SRes (.cons cI (.cons cHeap .nil)) .nil (.cons .bool .nil)) :=
  bif decide (v3 < (c0.2.1.length : Int)) then
    bif decide (0 ≤ v3) then
      bif decide (v3 < (c0.2.1.length : Int)) then
        (flotsamref06_Right (c0.2.1.getD v3.toNat (0, 0, 0, ()), ())).bind fun y1 =>
        bif !y1.1 then
          some (.fin (.ret (false, ())))
        else
        some (.next (wi64 (v3 + 1), c0, ()))
      else none
    else none
  else
  some (.fin (.out ()))
def flotsamref07_Form_s0 (x : Int × Heap × Unit) : Option (SRes (.cons cI (.cons cHeap .nil)) .nil (.cons .bool .nil)) := flotsamref07_Form_s0r x.1 x.2.1
def flotsamref07_Form_l0 (x : Int × Heap × Unit) : Option (LRes .nil (.cons .bool .nil)) := iterL (h := (.cons cI (.cons cHeap .nil))) (o := .nil) (r := (.cons .bool .nil)) flotsamref07_Form_s0 9223372036854775808 x
def flotsamref07_Form_r (a0 : Heap) : Option (Bool × Unit) :=
  bif decide ((a0.2.1.length : Int) < 1) then
    some (false, ())
  else
  bif decide ((a0.2.1.length : Int) > 16) then
    some (false, ())
  else
  bif (a0.1.length : Int) != (wi64 (32 * (a0.2.1.length : Int))) then
    some (false, ())
  else
  (flotsamref07_Form_l0 (0, a0, ())).bind fun s2 => match s2 with
  | .out s2 =>
    some (true, ())
  | .ret s2 =>
    some (s2.1, ())
def flotsamref07_Form (x : Heap × Unit) : Option (Bool × Unit) := flotsamref07_Form_r x.1
noncomputable def flotsamref07_Form_sm : Sum := ⟨(.cons cHeap .nil), (.cons (.d .bool) .nil), flotsamref07_Form⟩
noncomputable def flotsamref07_Form_L0 : LoopSum := { hc := ⟨[], [1, 3], [], [], [0], [], 368⟩, h := ⟨[(1, (.pvar 0 [])), (3, (.d cI))], [(0, (.d cHeap))], [], 368⟩, xid := 0, oc := ⟨[], [], [], [], [], [], 368⟩, o := ⟨[], [], [], 368⟩, rc := ⟨[], [2], [], [], [], [], 368⟩, r := ⟨[(2, (.d .bool))], [], [], 368⟩, F := flotsamref07_Form_l0 }
noncomputable def flotsamref07_Form_S : List (Nat × Sum) := [(25, flotsamref06_Right_sm)]
noncomputable def flotsamref07_Form_fl : List (Nat × Func) := []
noncomputable def flotsamref07_Form_es : List AE := [⟨8, 10, 0, 0, flotsamref07_Form_L0⟩]
theorem flotsamref07_Form_den0 : (fun x => denStep TEv (look1 flotsamref07_Form_S) (look1 flotsamref07_Form_fl) (annOf flotsamref07_Form_es) 8 10 Go.Proofs.Tryd.f10.ntmps 0 (cat (bodyOf Go.Proofs.Tryd.f10) [true, true, false, true, false, false]) flotsamref07_Form_L0 x) = flotsamref07_Form_s0 := by kernel_rfl
theorem flotsamref07_Form_den : (fun x => denFun TEv (look1 flotsamref07_Form_S) (look1 flotsamref07_Form_fl) (annOf flotsamref07_Form_es) 8 10 Go.Proofs.Tryd.f10 flotsamref07_Form_sm.a flotsamref07_Form_sm.r x) = flotsamref07_Form_sm.F := by kernel_rfl
theorem flotsamref07_Form_ok0 : AEok Go.Proofs.Tryd.prog TEv (look1 flotsamref07_Form_S) (look1 flotsamref07_Form_fl) (annOf flotsamref07_Form_es) ⟨8, 10, 0, 0, flotsamref07_Form_L0⟩ := aeok_of 9223372036854775808 Go.Proofs.Tryd.func10 (by kernel_rfl) flotsamref07_Form_den0 (by kernel_rfl)
theorem flotsamref07_Form_sem : SemOf Go.Proofs.Tryd.prog 10 flotsamref07_Form_sm :=
  semMk teOk (sl := flotsamref07_Form_S) (all_cons flotsamref06_Right_sem all_nil) (fl := flotsamref07_Form_fl) (all_nil) (es := flotsamref07_Form_es) Go.Proofs.Tryd.func10 (by kernel_rfl) rfl (all_cons flotsamref07_Form_ok0 (all_nil)) rfl flotsamref07_Form_den

/-! ### flotsam/flotsamref11.Right -/
def flotsamref11_Right_s0r (v1 : List (List Int)) (v5 : Int) (v6 : Int) (v7 : Int) (v8 : Int) (v9 : Int) (v10 : Int) (c0 : Heap) : Option (SRes (.cons (.sl (.arr 4 cI)) (.cons cI (.cons cI (.cons cI (.cons cI (.cons cI (.cons cI (.cons cHeap .nil)))))))) (.cons (.sl (.arr 4 cI)) (.cons cI (.cons cI (.cons cI (.cons cI (.cons cI (.cons cHeap .nil))))))) .nil) :=
  bif decide (v10 < 4) then
    bif decide (0 ≤ v9) then
      bif decide (v9 < (v1.length : Int)) then
        bif decide (0 ≤ v10) then
          bif decide (v10 < 4) then
            bif ((v1.getD v9.toNat (List.replicate 4 0)).getD v10.toNat 0) == v7 then
              some (.next (v1, v5, v6, v7, wi64 (v8 + 1), v9, wi64 (v10 + 1), c0, ()))
            else
            some (.next (v1, v5, v6, v7, v8, v9, wi64 (v10 + 1), c0, ()))
          else none
        else none
      else none
    else none
  else
  some (.fin (.out (v1, v5, v6, v7, v8, v9, c0, ())))
def flotsamref11_Right_s0 (x : (List (List Int)) × Int × Int × Int × Int × Int × Int × Heap × Unit) : Option (SRes (.cons (.sl (.arr 4 cI)) (.cons cI (.cons cI (.cons cI (.cons cI (.cons cI (.cons cI (.cons cHeap .nil)))))))) (.cons (.sl (.arr 4 cI)) (.cons cI (.cons cI (.cons cI (.cons cI (.cons cI (.cons cHeap .nil))))))) .nil) := flotsamref11_Right_s0r x.1 x.2.1 x.2.2.1 x.2.2.2.1 x.2.2.2.2.1 x.2.2.2.2.2.1 x.2.2.2.2.2.2.1 x.2.2.2.2.2.2.2.1
def flotsamref11_Right_l0 (x : (List (List Int)) × Int × Int × Int × Int × Int × Int × Heap × Unit) : Option (LRes (.cons (.sl (.arr 4 cI)) (.cons cI (.cons cI (.cons cI (.cons cI (.cons cI (.cons cHeap .nil))))))) .nil) := iterL (h := (.cons (.sl (.arr 4 cI)) (.cons cI (.cons cI (.cons cI (.cons cI (.cons cI (.cons cI (.cons cHeap .nil))))))))) (o := (.cons (.sl (.arr 4 cI)) (.cons cI (.cons cI (.cons cI (.cons cI (.cons cI (.cons cHeap .nil)))))))) (r := .nil) flotsamref11_Right_s0 9223372036854775808 x
def flotsamref11_Right_s1r (v1 : List (List Int)) (v5 : Int) (v6 : Int) (v7 : Int) (v8 : Int) (v9 : Int) (c0 : Heap) : Option (SRes (.cons (.sl (.arr 4 cI)) (.cons cI (.cons cI (.cons cI (.cons cI (.cons cI (.cons cHeap .nil))))))) (.cons (.sl (.arr 4 cI)) (.cons cI (.cons cI (.cons cI (.cons cHeap .nil))))) .nil) :=
  bif decide (v9 < (v1.length : Int)) then
    (flotsamref11_Right_l0 (v1, v5, v6, v7, v8, v9, 0, c0, ())).bind fun s1 => match s1 with
    | .out s1 =>
      some (.next (s1.1, s1.2.1, s1.2.2.1, s1.2.2.2.1, s1.2.2.2.2.1, wi64 (s1.2.2.2.2.2.1 + 1), s1.2.2.2.2.2.2.1, ()))
    | .ret s1 =>
      none
  else
  some (.fin (.out (v1, v5, v6, v8, c0, ())))
def flotsamref11_Right_s1 (x : (List (List Int)) × Int × Int × Int × Int × Int × Heap × Unit) : Option (SRes (.cons (.sl (.arr 4 cI)) (.cons cI (.cons cI (.cons cI (.cons cI (.cons cI (.cons cHeap .nil))))))) (.cons (.sl (.arr 4 cI)) (.cons cI (.cons cI (.cons cI (.cons cHeap .nil))))) .nil) := flotsamref11_Right_s1r x.1 x.2.1 x.2.2.1 x.2.2.2.1 x.2.2.2.2.1 x.2.2.2.2.2.1 x.2.2.2.2.2.2.1
def flotsamref11_Right_l1 (x : (List (List Int)) × Int × Int × Int × Int × Int × Heap × Unit) : Option (LRes (.cons (.sl (.arr 4 cI)) (.cons cI (.cons cI (.cons cI (.cons cHeap .nil))))) .nil) := iterL (h := (.cons (.sl (.arr 4 cI)) (.cons cI (.cons cI (.cons cI (.cons cI (.cons cI (.cons cHeap .nil)))))))) (o := (.cons (.sl (.arr 4 cI)) (.cons cI (.cons cI (.cons cI (.cons cHeap .nil)))))) (r := .nil) flotsamref11_Right_s1 9223372036854775808 x
def flotsamref11_Right_s2r (v1 : List (List Int)) (v5 : Int) (v6 : Int) (c0 : Heap) : Option (SRes (.cons (.sl (.arr 4 cI)) (.cons cI (.cons cI (.cons cHeap .nil)))) (.cons (.sl (.arr 4 cI)) (.cons cI (.cons cHeap .nil))) (.cons .bool .nil)) :=
  bif decide (v6 < 4) then
    bif decide (0 ≤ v5) then
      bif decide (v5 < (v1.length : Int)) then
        bif decide (0 ≤ v6) then
          bif decide (v6 < 4) then
            bif ((v1.getD v5.toNat (List.replicate 4 0)).getD v6.toNat 0) == (-1) then
              some (.next (v1, v5, wi64 (v6 + 1), c0, ()))
            else
            bif decide (((v1.getD v5.toNat (List.replicate 4 0)).getD v6.toNat 0) < 0) then
              some (.fin (.ret (false, ())))
            else
            bif decide (((v1.getD v5.toNat (List.replicate 4 0)).getD v6.toNat 0) ≥ (c0.2.1.length : Int)) then
              some (.fin (.ret (false, ())))
            else
            bif decide (0 ≤ ((v1.getD v5.toNat (List.replicate 4 0)).getD v6.toNat 0)) then
              bif decide (((v1.getD v5.toNat (List.replicate 4 0)).getD v6.toNat 0) < (c0.2.1.length : Int)) then
                bif (c0.2.1.getD ((v1.getD v5.toNat (List.replicate 4 0)).getD v6.toNat 0).toNat (0, 0, 0, ())).1 == 0 then
                  some (.fin (.ret (false, ())))
                else
                bif decide (0 ≤ ((v1.getD v5.toNat (List.replicate 4 0)).getD v6.toNat 0)) then
                  bif decide (((v1.getD v5.toNat (List.replicate 4 0)).getD v6.toNat 0) < (c0.2.1.length : Int)) then
                    bif (c0.2.1.getD ((v1.getD v5.toNat (List.replicate 4 0)).getD v6.toNat 0).toNat (0, 0, 0, ())).2.1 != v6 then
                      some (.fin (.ret (false, ())))
                    else
                    (flotsamref11_Right_l1 (v1, v5, v6, (v1.getD v5.toNat (List.replicate 4 0)).getD v6.toNat 0, 0, 0, c0, ())).bind fun s2 => match s2 with
                    | .out s2 =>
                      bif s2.2.2.2.1 != 1 then
                        some (.fin (.ret (false, ())))
                      else
                      some (.next (s2.1, s2.2.1, wi64 (s2.2.2.1 + 1), s2.2.2.2.2.1, ()))
                    | .ret s2 =>
                      none
                  else none
                else none
              else none
            else none
          else none
        else none
      else none
    else none
  else
  some (.fin (.out (v1, v5, c0, ())))
def flotsamref11_Right_s2 (x : (List (List Int)) × Int × Int × Heap × Unit) : Option (SRes (.cons (.sl (.arr 4 cI)) (.cons cI (.cons cI (.cons cHeap .nil)))) (.cons (.sl (.arr 4 cI)) (.cons cI (.cons cHeap .nil))) (.cons .bool .nil)) := flotsamref11_Right_s2r x.1 x.2.1 x.2.2.1 x.2.2.2.1
def flotsamref11_Right_l2 (x : (List (List Int)) × Int × Int × Heap × Unit) : Option (LRes (.cons (.sl (.arr 4 cI)) (.cons cI (.cons cHeap .nil))) (.cons .bool .nil)) := iterL (h := (.cons (.sl (.arr 4 cI)) (.cons cI (.cons cI (.cons cHeap .nil))))) (o := (.cons (.sl (.arr 4 cI)) (.cons cI (.cons cHeap .nil)))) (r := (.cons .bool .nil)) flotsamref11_Right_s2 9223372036854775808 x
def flotsamref11_Right_s3r (v1 : List (List Int)) (v5 : Int) (c0 : Heap) : Option (SRes (.cons (.sl (.arr 4 cI)) (.cons cI (.cons cHeap .nil))) .nil (.cons .bool .nil)) :=
  bif decide (v5 < (v1.length : Int)) then
    (flotsamref11_Right_l2 (v1, v5, 0, c0, ())).bind fun s3 => match s3 with
    | .out s3 =>
      some (.next (s3.1, wi64 (s3.2.1 + 1), s3.2.2.1, ()))
    | .ret s3 =>
      some (.fin (.ret (s3.1, ())))
  else
  some (.fin (.out ()))
def flotsamref11_Right_s3 (x : (List (List Int)) × Int × Heap × Unit) : Option (SRes (.cons (.sl (.arr 4 cI)) (.cons cI (.cons cHeap .nil))) .nil (.cons .bool .nil)) := flotsamref11_Right_s3r x.1 x.2.1 x.2.2.1
def flotsamref11_Right_l3 (x : (List (List Int)) × Int × Heap × Unit) : Option (LRes .nil (.cons .bool .nil)) := iterL (h := (.cons (.sl (.arr 4 cI)) (.cons cI (.cons cHeap .nil)))) (o := .nil) (r := (.cons .bool .nil)) flotsamref11_Right_s3 9223372036854775808 x
def flotsamref11_Right_r (a0 : Heap) (a1 : List (List Int)) : Option (Bool × Unit) :=
  (flotsamref11_Right_l3 (a1, 0, a0, ())).bind fun s4 => match s4 with
  | .out s4 =>
    some (true, ())
  | .ret s4 =>
    some (s4.1, ())
def flotsamref11_Right (x : Heap × (List (List Int)) × Unit) : Option (Bool × Unit) := flotsamref11_Right_r x.1 x.2.1
noncomputable def flotsamref11_Right_sm : Sum := ⟨(.cons cHeap (.cons (.sl (.arr 4 cI)) .nil)), (.cons (.d .bool) .nil), flotsamref11_Right⟩
noncomputable def flotsamref11_Right_L0 : LoopSum := { hc := ⟨[], [1, 2, 5, 6, 7, 8, 9, 10], [], [], [0], [], 864⟩, h := ⟨[(1, (.d (.sl (.arr 4 cI)))), (2, (.pvar 0 [])), (5, (.d cI)), (6, (.d cI)), (7, (.d cI)), (8, (.d cI)), (9, (.d cI)), (10, (.d cI))], [(0, (.d cHeap))], [], 864⟩, xid := 6, oc := ⟨[], [1, 2, 5, 6, 7, 8, 9], [], [], [0], [], 864⟩, o := ⟨[(1, (.d (.sl (.arr 4 cI)))), (2, (.pvar 0 [])), (5, (.d cI)), (6, (.d cI)), (7, (.d cI)), (8, (.d cI)), (9, (.d cI))], [(0, (.d cHeap))], [], 864⟩, rc := ⟨[], [], [], [], [864], [], 864⟩, r := ⟨[], [], [], 864⟩, F := flotsamref11_Right_l0 }
noncomputable def flotsamref11_Right_L1 : LoopSum := { hc := ⟨[], [1, 2, 5, 6, 7, 8, 9], [], [], [0], [], 784⟩, h := ⟨[(1, (.d (.sl (.arr 4 cI)))), (2, (.pvar 0 [])), (5, (.d cI)), (6, (.d cI)), (7, (.d cI)), (8, (.d cI)), (9, (.d cI))], [(0, (.d cHeap))], [], 784⟩, xid := 4, oc := ⟨[], [1, 2, 5, 6, 8], [], [], [0], [], 784⟩, o := ⟨[(1, (.d (.sl (.arr 4 cI)))), (2, (.pvar 0 [])), (5, (.d cI)), (6, (.d cI)), (8, (.d cI))], [(0, (.d cHeap))], [], 784⟩, rc := ⟨[], [], [], [], [784], [], 784⟩, r := ⟨[], [], [], 784⟩, F := flotsamref11_Right_l1 }
noncomputable def flotsamref11_Right_L2 : LoopSum := { hc := ⟨[], [1, 2, 5, 6], [], [], [0], [], 128⟩, h := ⟨[(1, (.d (.sl (.arr 4 cI)))), (2, (.pvar 0 [])), (5, (.d cI)), (6, (.d cI))], [(0, (.d cHeap))], [], 128⟩, xid := 2, oc := ⟨[], [1, 2, 5], [], [], [0], [], 128⟩, o := ⟨[(1, (.d (.sl (.arr 4 cI)))), (2, (.pvar 0 [])), (5, (.d cI))], [(0, (.d cHeap))], [], 128⟩, rc := ⟨[], [4], [], [], [], [], 128⟩, r := ⟨[(4, (.d .bool))], [], [], 128⟩, F := flotsamref11_Right_l2 }
noncomputable def flotsamref11_Right_L3 : LoopSum := { hc := ⟨[], [1, 2, 5], [], [], [0], [], 48⟩, h := ⟨[(1, (.d (.sl (.arr 4 cI)))), (2, (.pvar 0 [])), (5, (.d cI))], [(0, (.d cHeap))], [], 48⟩, xid := 0, oc := ⟨[], [], [], [], [], [], 48⟩, o := ⟨[], [], [], 48⟩, rc := ⟨[], [4], [], [], [], [], 48⟩, r := ⟨[(4, (.d .bool))], [], [], 48⟩, F := flotsamref11_Right_l3 }
noncomputable def flotsamref11_Right_S : List (Nat × Sum) := []
noncomputable def flotsamref11_Right_fl : List (Nat × Func) := []
noncomputable def flotsamref11_Right_es : List AE := [⟨8, 12, 0, 6, flotsamref11_Right_L0⟩, ⟨8, 12, 0, 4, flotsamref11_Right_L1⟩, ⟨8, 12, 0, 2, flotsamref11_Right_L2⟩, ⟨8, 12, 0, 0, flotsamref11_Right_L3⟩]
theorem flotsamref11_Right_den0 : (fun x => denStep TEv (look1 flotsamref11_Right_S) (look1 flotsamref11_Right_fl) (annOf flotsamref11_Right_es) 8 12 Go.Proofs.Tryd.f12.ntmps 0 (cat (bodyOf Go.Proofs.Tryd.f12) [true, false, true, false, false, true, false, false, true, false, false, true, false, false, true, true, true, true, false, true, false, false, true, false, false, true, false, false]) flotsamref11_Right_L0 x) = flotsamref11_Right_s0 := by kernel_rfl
theorem flotsamref11_Right_den1 : (fun x => denStep TEv (look1 flotsamref11_Right_S) (look1 flotsamref11_Right_fl) (annOf flotsamref11_Right_es) 8 12 Go.Proofs.Tryd.f12.ntmps 0 (cat (bodyOf Go.Proofs.Tryd.f12) [true, false, true, false, false, true, false, false, true, false, false, true, false, false, true, true, true, true, false, true, false, false]) flotsamref11_Right_L1 x) = flotsamref11_Right_s1 := by kernel_rfl
theorem flotsamref11_Right_den2 : (fun x => denStep TEv (look1 flotsamref11_Right_S) (look1 flotsamref11_Right_fl) (annOf flotsamref11_Right_es) 8 12 Go.Proofs.Tryd.f12.ntmps 0 (cat (bodyOf Go.Proofs.Tryd.f12) [true, false, true, false, false, true, false, false, true, false, false]) flotsamref11_Right_L2 x) = flotsamref11_Right_s2 := by kernel_rfl
theorem flotsamref11_Right_den3 : (fun x => denStep TEv (look1 flotsamref11_Right_S) (look1 flotsamref11_Right_fl) (annOf flotsamref11_Right_es) 8 12 Go.Proofs.Tryd.f12.ntmps 0 (cat (bodyOf Go.Proofs.Tryd.f12) [true, false, true, false, false]) flotsamref11_Right_L3 x) = flotsamref11_Right_s3 := by kernel_rfl
theorem flotsamref11_Right_den : (fun x => denFun TEv (look1 flotsamref11_Right_S) (look1 flotsamref11_Right_fl) (annOf flotsamref11_Right_es) 8 12 Go.Proofs.Tryd.f12 flotsamref11_Right_sm.a flotsamref11_Right_sm.r x) = flotsamref11_Right_sm.F := by kernel_rfl
theorem flotsamref11_Right_ok0 : AEok Go.Proofs.Tryd.prog TEv (look1 flotsamref11_Right_S) (look1 flotsamref11_Right_fl) (annOf flotsamref11_Right_es) ⟨8, 12, 0, 6, flotsamref11_Right_L0⟩ := aeok_of 9223372036854775808 Go.Proofs.Tryd.func12 (by kernel_rfl) flotsamref11_Right_den0 (by kernel_rfl)
theorem flotsamref11_Right_ok1 : AEok Go.Proofs.Tryd.prog TEv (look1 flotsamref11_Right_S) (look1 flotsamref11_Right_fl) (annOf flotsamref11_Right_es) ⟨8, 12, 0, 4, flotsamref11_Right_L1⟩ := aeok_of 9223372036854775808 Go.Proofs.Tryd.func12 (by kernel_rfl) flotsamref11_Right_den1 (by kernel_rfl)
theorem flotsamref11_Right_ok2 : AEok Go.Proofs.Tryd.prog TEv (look1 flotsamref11_Right_S) (look1 flotsamref11_Right_fl) (annOf flotsamref11_Right_es) ⟨8, 12, 0, 2, flotsamref11_Right_L2⟩ := aeok_of 9223372036854775808 Go.Proofs.Tryd.func12 (by kernel_rfl) flotsamref11_Right_den2 (by kernel_rfl)
theorem flotsamref11_Right_ok3 : AEok Go.Proofs.Tryd.prog TEv (look1 flotsamref11_Right_S) (look1 flotsamref11_Right_fl) (annOf flotsamref11_Right_es) ⟨8, 12, 0, 0, flotsamref11_Right_L3⟩ := aeok_of 9223372036854775808 Go.Proofs.Tryd.func12 (by kernel_rfl) flotsamref11_Right_den3 (by kernel_rfl)
theorem flotsamref11_Right_sem : SemOf Go.Proofs.Tryd.prog 12 flotsamref11_Right_sm :=
  semMk teOk (sl := flotsamref11_Right_S) (all_nil) (fl := flotsamref11_Right_fl) (all_nil) (es := flotsamref11_Right_es) Go.Proofs.Tryd.func12 (by kernel_rfl) rfl (all_cons flotsamref11_Right_ok0 (all_cons flotsamref11_Right_ok1 (all_cons flotsamref11_Right_ok2 (all_cons flotsamref11_Right_ok3 (all_nil))))) rfl flotsamref11_Right_den

/-! ### flotsam/flotsamlaw11.TakeRights -/
def flotsamlaw11_TakeRights_r (a0 : Heap) (a1 : List (List Int)) (a2 : Int) : Option (Bool × Unit) :=
  (flotsamlaw11_awake ()).bind fun y1 =>
  bif !y1.1 then
    (flotsamlaw11_awake ()).bind fun y2 =>
    some (y2.1, ())
  else
  (flotsamref07_Form (a0, ())).bind fun y3 =>
  bif !y3.1 then
    (flotsamlaw11_awake ()).bind fun y4 =>
    some (y4.1, ())
  else
  bif decide ((a1.length : Int) > 10) then
    (flotsamlaw11_awake ()).bind fun y5 =>
    some (y5.1, ())
  else
  (take_Right (a0, a1, ())).bind fun y6 =>
  (flotsamref11_Right (a0, a1, ())).bind fun y7 =>
  bif y6.1 == y7.1 then
    bif decide (a2 < 0) then
      some (true, ())
    else
    (take_Kept (a1, a2, ())).bind fun y8 =>
    (flotsamref11_Kept (a1, a2, ())).bind fun y9 =>
    some (y8.1 == y9.1, ())
  else
  some (false, ())
def flotsamlaw11_TakeRights (x : Heap × (List (List Int)) × Int × Unit) : Option (Bool × Unit) := flotsamlaw11_TakeRights_r x.1 x.2.1 x.2.2.1
noncomputable def flotsamlaw11_TakeRights_sm : Sum := ⟨(.cons cHeap (.cons (.sl (.arr 4 cI)) (.cons cI .nil))), (.cons (.d .bool) .nil), flotsamlaw11_TakeRights⟩
noncomputable def flotsamlaw11_TakeRights_S : List (Nat × Sum) := [(9, flotsamlaw11_awake_sm), (10, flotsamref07_Form_sm), (11, take_Right_sm), (12, flotsamref11_Right_sm), (13, take_Kept_sm), (14, flotsamref11_Kept_sm)]
noncomputable def flotsamlaw11_TakeRights_fl : List (Nat × Func) := []
noncomputable def flotsamlaw11_TakeRights_es : List AE := []
theorem flotsamlaw11_TakeRights_den : (fun x => denFun TEv (look1 flotsamlaw11_TakeRights_S) (look1 flotsamlaw11_TakeRights_fl) (annOf flotsamlaw11_TakeRights_es) 8 3 Go.Proofs.Tryd.f3 flotsamlaw11_TakeRights_sm.a flotsamlaw11_TakeRights_sm.r x) = flotsamlaw11_TakeRights_sm.F := by kernel_rfl
theorem flotsamlaw11_TakeRights_sem : SemOf Go.Proofs.Tryd.prog 3 flotsamlaw11_TakeRights_sm :=
  semMk teOk (sl := flotsamlaw11_TakeRights_S) (all_cons flotsamlaw11_awake_sem (all_cons flotsamref07_Form_sem (all_cons take_Right_sem (all_cons flotsamref11_Right_sem (all_cons take_Kept_sem (all_cons flotsamref11_Kept_sem all_nil)))))) (fl := flotsamlaw11_TakeRights_fl) (all_nil) (es := flotsamlaw11_TakeRights_es) Go.Proofs.Tryd.func3 (by kernel_rfl) rfl (all_nil) rfl flotsamlaw11_TakeRights_den

/-! ### flotsam/flotsamlaw11.right -/
def flotsamlaw11_right_r (a0 : Heap) (a1 : List (List Int)) (a2 : Int) : Option (Bool × Unit) :=
  (flotsamref07_Form (a0, ())).bind fun y1 =>
  bif y1.1 then
    bif decide ((a1.length : Int) ≤ 10) then
      (flotsamref11_Right (a0, a1, ())).bind fun y2 =>
      bif y2.1 then
        bif decide (a2 ≥ 0) then
          some (decide (a2 < (a1.length : Int)), ())
        else
        some (false, ())
      else
      some (false, ())
    else
    some (false, ())
  else
  some (false, ())
def flotsamlaw11_right (x : Heap × (List (List Int)) × Int × Unit) : Option (Bool × Unit) := flotsamlaw11_right_r x.1 x.2.1 x.2.2.1
noncomputable def flotsamlaw11_right_sm : Sum := ⟨(.cons cHeap (.cons (.sl (.arr 4 cI)) (.cons cI .nil))), (.cons (.d .bool) .nil), flotsamlaw11_right⟩
noncomputable def flotsamlaw11_right_S : List (Nat × Sum) := [(10, flotsamref07_Form_sm), (12, flotsamref11_Right_sm)]
noncomputable def flotsamlaw11_right_fl : List (Nat × Func) := []
noncomputable def flotsamlaw11_right_es : List AE := []
theorem flotsamlaw11_right_den : (fun x => denFun TEv (look1 flotsamlaw11_right_S) (look1 flotsamlaw11_right_fl) (annOf flotsamlaw11_right_es) 8 15 Go.Proofs.Tryd.f15 flotsamlaw11_right_sm.a flotsamlaw11_right_sm.r x) = flotsamlaw11_right_sm.F := by kernel_rfl
theorem flotsamlaw11_right_sem : SemOf Go.Proofs.Tryd.prog 15 flotsamlaw11_right_sm :=
  semMk teOk (sl := flotsamlaw11_right_S) (all_cons flotsamref07_Form_sem (all_cons flotsamref11_Right_sem all_nil)) (fl := flotsamlaw11_right_fl) (all_nil) (es := flotsamlaw11_right_es) Go.Proofs.Tryd.func15 (by kernel_rfl) rfl (all_nil) rfl flotsamlaw11_right_den

/-! ### flotsam/flotsamlaw11.TakeFinds -/
def flotsamlaw11_TakeFinds_r (a0 : Heap) (a1 : List (List Int)) (a2 : Int) (a3 : Int) : Option (Bool × Unit) :=
  (flotsamlaw11_awake ()).bind fun y1 =>
  bif !y1.1 then
    (flotsamlaw11_awake ()).bind fun y2 =>
    some (y2.1, ())
  else
  (flotsamlaw11_right (a0, a1, a2, ())).bind fun y3 =>
  bif !y3.1 then
    (flotsamlaw11_awake ()).bind fun y4 =>
    some (y4.1, ())
  else
  (take_Page (a0, a1, a2, wi64 (a3.tmod 4), ())).bind fun y5 =>
  (flotsamref11_Page (a0, a1, a2, wi64 (a3.tmod 4), ())).bind fun y6 =>
  bif y5.1 == y6.1 then
    some (y5.2.1 == y6.2.1, ())
  else
  some (false, ())
def flotsamlaw11_TakeFinds (x : Heap × (List (List Int)) × Int × Int × Unit) : Option (Bool × Unit) := flotsamlaw11_TakeFinds_r x.1 x.2.1 x.2.2.1 x.2.2.2.1
noncomputable def flotsamlaw11_TakeFinds_sm : Sum := ⟨(.cons cHeap (.cons (.sl (.arr 4 cI)) (.cons cI (.cons (.int .u8) .nil)))), (.cons (.d .bool) .nil), flotsamlaw11_TakeFinds⟩
noncomputable def flotsamlaw11_TakeFinds_S : List (Nat × Sum) := [(9, flotsamlaw11_awake_sm), (15, flotsamlaw11_right_sm), (16, take_Page_sm), (17, flotsamref11_Page_sm)]
noncomputable def flotsamlaw11_TakeFinds_fl : List (Nat × Func) := []
noncomputable def flotsamlaw11_TakeFinds_es : List AE := []
theorem flotsamlaw11_TakeFinds_den : (fun x => denFun TEv (look1 flotsamlaw11_TakeFinds_S) (look1 flotsamlaw11_TakeFinds_fl) (annOf flotsamlaw11_TakeFinds_es) 8 4 Go.Proofs.Tryd.f4 flotsamlaw11_TakeFinds_sm.a flotsamlaw11_TakeFinds_sm.r x) = flotsamlaw11_TakeFinds_sm.F := by kernel_rfl
theorem flotsamlaw11_TakeFinds_sem : SemOf Go.Proofs.Tryd.prog 4 flotsamlaw11_TakeFinds_sm :=
  semMk teOk (sl := flotsamlaw11_TakeFinds_S) (all_cons flotsamlaw11_awake_sem (all_cons flotsamlaw11_right_sem (all_cons take_Page_sem (all_cons flotsamref11_Page_sem all_nil)))) (fl := flotsamlaw11_TakeFinds_fl) (all_nil) (es := flotsamlaw11_TakeFinds_es) Go.Proofs.Tryd.func4 (by kernel_rfl) rfl (all_nil) rfl flotsamlaw11_TakeFinds_den

/-! ### flotsam/flotsamref05.Same -/
def flotsamref05_Same_s0r (v0 : List Int) (v1 : List Int) (v5 : Int) : Option (SRes (.cons (.sl (.int .u64)) (.cons (.sl (.int .u64)) (.cons cI .nil))) .nil (.cons .bool .nil)) :=
  bif decide (v5 < (v0.length : Int)) then
    bif decide (0 ≤ v5) then
      bif decide (v5 < (v0.length : Int)) then
        bif decide (0 ≤ v5) then
          bif decide (v5 < (v1.length : Int)) then
            bif (v0.getD v5.toNat 0) != (v1.getD v5.toNat 0) then
              some (.fin (.ret (false, ())))
            else
            some (.next (v0, v1, wi64 (v5 + 1), ()))
          else none
        else none
      else none
    else none
  else
  some (.fin (.out ()))
def flotsamref05_Same_s0 (x : (List Int) × (List Int) × Int × Unit) : Option (SRes (.cons (.sl (.int .u64)) (.cons (.sl (.int .u64)) (.cons cI .nil))) .nil (.cons .bool .nil)) := flotsamref05_Same_s0r x.1 x.2.1 x.2.2.1
def flotsamref05_Same_l0 (x : (List Int) × (List Int) × Int × Unit) : Option (LRes .nil (.cons .bool .nil)) := iterL (h := (.cons (.sl (.int .u64)) (.cons (.sl (.int .u64)) (.cons cI .nil)))) (o := .nil) (r := (.cons .bool .nil)) flotsamref05_Same_s0 9223372036854775808 x
def flotsamref05_Same_r (a0 : List Int) (a1 : List Int) : Option (Bool × Unit) :=
  bif (a0.length : Int) != (a1.length : Int) then
    some (false, ())
  else
  (flotsamref05_Same_l0 (a0, a1, 0, ())).bind fun s1 => match s1 with
  | .out s1 =>
    some (true, ())
  | .ret s1 =>
    some (s1.1, ())
def flotsamref05_Same (x : (List Int) × (List Int) × Unit) : Option (Bool × Unit) := flotsamref05_Same_r x.1 x.2.1
noncomputable def flotsamref05_Same_sm : Sum := ⟨(.cons (.sl (.int .u64)) (.cons (.sl (.int .u64)) .nil)), (.cons (.d .bool) .nil), flotsamref05_Same⟩
noncomputable def flotsamref05_Same_L0 : LoopSum := { hc := ⟨[], [0, 1, 5], [], [], [], [], 112⟩, h := ⟨[(0, (.d (.sl (.int .u64)))), (1, (.d (.sl (.int .u64)))), (5, (.d cI))], [], [], 112⟩, xid := 0, oc := ⟨[], [], [], [], [], [], 112⟩, o := ⟨[], [], [], 112⟩, rc := ⟨[], [4], [], [], [], [], 112⟩, r := ⟨[(4, (.d .bool))], [], [], 112⟩, F := flotsamref05_Same_l0 }
noncomputable def flotsamref05_Same_S : List (Nat × Sum) := []
noncomputable def flotsamref05_Same_fl : List (Nat × Func) := []
noncomputable def flotsamref05_Same_es : List AE := [⟨8, 41, 0, 0, flotsamref05_Same_L0⟩]
theorem flotsamref05_Same_den0 : (fun x => denStep TEv (look1 flotsamref05_Same_S) (look1 flotsamref05_Same_fl) (annOf flotsamref05_Same_es) 8 41 Go.Proofs.Tryd.f41.ntmps 0 (cat (bodyOf Go.Proofs.Tryd.f41) [true, true, false, true, false, false]) flotsamref05_Same_L0 x) = flotsamref05_Same_s0 := by kernel_rfl
theorem flotsamref05_Same_den : (fun x => denFun TEv (look1 flotsamref05_Same_S) (look1 flotsamref05_Same_fl) (annOf flotsamref05_Same_es) 8 41 Go.Proofs.Tryd.f41 flotsamref05_Same_sm.a flotsamref05_Same_sm.r x) = flotsamref05_Same_sm.F := by kernel_rfl
theorem flotsamref05_Same_ok0 : AEok Go.Proofs.Tryd.prog TEv (look1 flotsamref05_Same_S) (look1 flotsamref05_Same_fl) (annOf flotsamref05_Same_es) ⟨8, 41, 0, 0, flotsamref05_Same_L0⟩ := aeok_of 9223372036854775808 Go.Proofs.Tryd.func41 (by kernel_rfl) flotsamref05_Same_den0 (by kernel_rfl)
theorem flotsamref05_Same_sem : SemOf Go.Proofs.Tryd.prog 41 flotsamref05_Same_sm :=
  semMk teOk (sl := flotsamref05_Same_S) (all_nil) (fl := flotsamref05_Same_fl) (all_nil) (es := flotsamref05_Same_es) Go.Proofs.Tryd.func41 (by kernel_rfl) rfl (all_cons flotsamref05_Same_ok0 (all_nil)) rfl flotsamref05_Same_den

/-! ### flotsam/flotsamref07.Same -/
def flotsamref07_Same_s0r (v5 : Int) (c0 : Heap) (c16 : Heap) : Option (SRes (.cons cI (.cons cHeap (.cons cHeap .nil))) .nil (.cons .bool .nil)) :=
  bif decide (v5 < (c0.2.1.length : Int)) then
    bif decide (0 ≤ v5) then
      bif decide (v5 < (c0.2.1.length : Int)) then
        bif decide (0 ≤ v5) then
          bif decide (v5 < (c16.2.1.length : Int)) then
            bif !(((c0.2.1.getD v5.toNat (0, 0, 0, ())).1 == (c16.2.1.getD v5.toNat (0, 0, 0, ())).1) && (((c0.2.1.getD v5.toNat (0, 0, 0, ())).2.1 == (c16.2.1.getD v5.toNat (0, 0, 0, ())).2.1) && (((c0.2.1.getD v5.toNat (0, 0, 0, ())).2.2.1 == (c16.2.1.getD v5.toNat (0, 0, 0, ())).2.2.1) && true))) then
              some (.fin (.ret (false, ())))
            else
            some (.next (wi64 (v5 + 1), c0, c16, ()))
          else none
        else none
      else none
    else none
  else
  some (.fin (.out ()))
def flotsamref07_Same_s0 (x : Int × Heap × Heap × Unit) : Option (SRes (.cons cI (.cons cHeap (.cons cHeap .nil))) .nil (.cons .bool .nil)) := flotsamref07_Same_s0r x.1 x.2.1 x.2.2.1
def flotsamref07_Same_l0 (x : Int × Heap × Heap × Unit) : Option (LRes .nil (.cons .bool .nil)) := iterL (h := (.cons cI (.cons cHeap (.cons cHeap .nil)))) (o := .nil) (r := (.cons .bool .nil)) flotsamref07_Same_s0 9223372036854775808 x
def flotsamref07_Same_r (a0 : Heap) (a1 : Heap) : Option (Bool × Unit) :=
  bif !(a0.2.2.1 == a1.2.2.1) then
    some (false, ())
  else
  bif (a0.2.1.length : Int) != (a1.2.1.length : Int) then
    some (false, ())
  else
  (flotsamref05_Same (a0.1, a1.1, ())).bind fun y1 =>
  bif !y1.1 then
    some (false, ())
  else
  (flotsamref07_Same_l0 (0, a0, a1, ())).bind fun s2 => match s2 with
  | .out s2 =>
    some (true, ())
  | .ret s2 =>
    some (s2.1, ())
def flotsamref07_Same (x : Heap × Heap × Unit) : Option (Bool × Unit) := flotsamref07_Same_r x.1 x.2.1
noncomputable def flotsamref07_Same_sm : Sum := ⟨(.cons cHeap (.cons cHeap .nil)), (.cons (.d .bool) .nil), flotsamref07_Same⟩
noncomputable def flotsamref07_Same_L0 : LoopSum := { hc := ⟨[], [2, 3, 5], [], [], [0, 16], [], 416⟩, h := ⟨[(2, (.pvar 0 [])), (3, (.pvar 16 [])), (5, (.d cI))], [(0, (.d cHeap)), (16, (.d cHeap))], [], 416⟩, xid := 0, oc := ⟨[], [], [], [], [], [], 416⟩, o := ⟨[], [], [], 416⟩, rc := ⟨[], [4], [], [], [], [], 416⟩, r := ⟨[(4, (.d .bool))], [], [], 416⟩, F := flotsamref07_Same_l0 }
noncomputable def flotsamref07_Same_S : List (Nat × Sum) := [(41, flotsamref05_Same_sm)]
noncomputable def flotsamref07_Same_fl : List (Nat × Func) := []
noncomputable def flotsamref07_Same_es : List AE := [⟨8, 20, 0, 0, flotsamref07_Same_L0⟩]
theorem flotsamref07_Same_den0 : (fun x => denStep TEv (look1 flotsamref07_Same_S) (look1 flotsamref07_Same_fl) (annOf flotsamref07_Same_es) 8 20 Go.Proofs.Tryd.f20.ntmps 0 (cat (bodyOf Go.Proofs.Tryd.f20) [true, true, false, true, false, false]) flotsamref07_Same_L0 x) = flotsamref07_Same_s0 := by kernel_rfl
theorem flotsamref07_Same_den : (fun x => denFun TEv (look1 flotsamref07_Same_S) (look1 flotsamref07_Same_fl) (annOf flotsamref07_Same_es) 8 20 Go.Proofs.Tryd.f20 flotsamref07_Same_sm.a flotsamref07_Same_sm.r x) = flotsamref07_Same_sm.F := by kernel_rfl
theorem flotsamref07_Same_ok0 : AEok Go.Proofs.Tryd.prog TEv (look1 flotsamref07_Same_S) (look1 flotsamref07_Same_fl) (annOf flotsamref07_Same_es) ⟨8, 20, 0, 0, flotsamref07_Same_L0⟩ := aeok_of 9223372036854775808 Go.Proofs.Tryd.func20 (by kernel_rfl) flotsamref07_Same_den0 (by kernel_rfl)
theorem flotsamref07_Same_sem : SemOf Go.Proofs.Tryd.prog 20 flotsamref07_Same_sm :=
  semMk teOk (sl := flotsamref07_Same_S) (all_cons flotsamref05_Same_sem all_nil) (fl := flotsamref07_Same_fl) (all_nil) (es := flotsamref07_Same_es) Go.Proofs.Tryd.func20 (by kernel_rfl) rfl (all_cons flotsamref07_Same_ok0 (all_nil)) rfl flotsamref07_Same_den

/-! ### flotsam/flotsamref11.Same -/
def flotsamref11_Same_s0r (v0 : List (List Int)) (v1 : List (List Int)) (v5 : Int) : Option (SRes (.cons (.sl (.arr 4 cI)) (.cons (.sl (.arr 4 cI)) (.cons cI .nil))) .nil (.cons .bool .nil)) :=
  bif decide (v5 < (v0.length : Int)) then
    bif decide (0 ≤ v5) then
      bif decide (v5 < (v0.length : Int)) then
        bif decide (0 ≤ v5) then
          bif decide (v5 < (v1.length : Int)) then
            bif !((List.zip (v0.getD v5.toNat (List.replicate 4 0)) (v1.getD v5.toNat (List.replicate 4 0))).all fun p => p.1 == p.2) then
              some (.fin (.ret (false, ())))
            else
            some (.next (v0, v1, wi64 (v5 + 1), ()))
          else none
        else none
      else none
    else none
  else
  some (.fin (.out ()))
def flotsamref11_Same_s0 (x : (List (List Int)) × (List (List Int)) × Int × Unit) : Option (SRes (.cons (.sl (.arr 4 cI)) (.cons (.sl (.arr 4 cI)) (.cons cI .nil))) .nil (.cons .bool .nil)) := flotsamref11_Same_s0r x.1 x.2.1 x.2.2.1
def flotsamref11_Same_l0 (x : (List (List Int)) × (List (List Int)) × Int × Unit) : Option (LRes .nil (.cons .bool .nil)) := iterL (h := (.cons (.sl (.arr 4 cI)) (.cons (.sl (.arr 4 cI)) (.cons cI .nil)))) (o := .nil) (r := (.cons .bool .nil)) flotsamref11_Same_s0 9223372036854775808 x
def flotsamref11_Same_r (a0 : List (List Int)) (a1 : List (List Int)) : Option (Bool × Unit) :=
  bif (a0.length : Int) != (a1.length : Int) then
    some (false, ())
  else
  (flotsamref11_Same_l0 (a0, a1, 0, ())).bind fun s1 => match s1 with
  | .out s1 =>
    some (true, ())
  | .ret s1 =>
    some (s1.1, ())
def flotsamref11_Same (x : (List (List Int)) × (List (List Int)) × Unit) : Option (Bool × Unit) := flotsamref11_Same_r x.1 x.2.1
noncomputable def flotsamref11_Same_sm : Sum := ⟨(.cons (.sl (.arr 4 cI)) (.cons (.sl (.arr 4 cI)) .nil)), (.cons (.d .bool) .nil), flotsamref11_Same⟩
noncomputable def flotsamref11_Same_L0 : LoopSum := { hc := ⟨[], [0, 1, 5], [], [], [], [], 112⟩, h := ⟨[(0, (.d (.sl (.arr 4 cI)))), (1, (.d (.sl (.arr 4 cI)))), (5, (.d cI))], [], [], 112⟩, xid := 0, oc := ⟨[], [], [], [], [], [], 112⟩, o := ⟨[], [], [], 112⟩, rc := ⟨[], [4], [], [], [], [], 112⟩, r := ⟨[(4, (.d .bool))], [], [], 112⟩, F := flotsamref11_Same_l0 }
noncomputable def flotsamref11_Same_S : List (Nat × Sum) := []
noncomputable def flotsamref11_Same_fl : List (Nat × Func) := []
noncomputable def flotsamref11_Same_es : List AE := [⟨8, 21, 0, 0, flotsamref11_Same_L0⟩]
theorem flotsamref11_Same_den0 : (fun x => denStep TEv (look1 flotsamref11_Same_S) (look1 flotsamref11_Same_fl) (annOf flotsamref11_Same_es) 8 21 Go.Proofs.Tryd.f21.ntmps 0 (cat (bodyOf Go.Proofs.Tryd.f21) [true, true, false, true, false, false]) flotsamref11_Same_L0 x) = flotsamref11_Same_s0 := by kernel_rfl
theorem flotsamref11_Same_den : (fun x => denFun TEv (look1 flotsamref11_Same_S) (look1 flotsamref11_Same_fl) (annOf flotsamref11_Same_es) 8 21 Go.Proofs.Tryd.f21 flotsamref11_Same_sm.a flotsamref11_Same_sm.r x) = flotsamref11_Same_sm.F := by kernel_rfl
theorem flotsamref11_Same_ok0 : AEok Go.Proofs.Tryd.prog TEv (look1 flotsamref11_Same_S) (look1 flotsamref11_Same_fl) (annOf flotsamref11_Same_es) ⟨8, 21, 0, 0, flotsamref11_Same_L0⟩ := aeok_of 9223372036854775808 Go.Proofs.Tryd.func21 (by kernel_rfl) flotsamref11_Same_den0 (by kernel_rfl)
theorem flotsamref11_Same_sem : SemOf Go.Proofs.Tryd.prog 21 flotsamref11_Same_sm :=
  semMk teOk (sl := flotsamref11_Same_S) (all_nil) (fl := flotsamref11_Same_fl) (all_nil) (es := flotsamref11_Same_es) Go.Proofs.Tryd.func21 (by kernel_rfl) rfl (all_cons flotsamref11_Same_ok0 (all_nil)) rfl flotsamref11_Same_den
end Go.Proofs.YtebdioogklmeaaaDoor.Den
