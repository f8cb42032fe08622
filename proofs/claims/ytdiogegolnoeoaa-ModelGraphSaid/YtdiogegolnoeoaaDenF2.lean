/- What functions come to. Printed by a program of this session. -/
import Derived.Test.YtdiogegolnoeoaaDenF1
namespace Go.Proofs.Ytdiogegolnoeoaa.Den
open Go
set_option maxRecDepth 100000
set_option linter.unusedVariables false
/-! ### flotsam/flotsamref24.Same -/
def flotsamref24_Same_s0r (v5 : Int) (c0 : Model) (c16 : Model) : Option (SRes (.cons cI (.cons cModel (.cons cModel .nil))) (.cons cModel (.cons cModel .nil)) (.cons .bool .nil)) :=
  bif decide (v5 < (c0.2.1.length : Int)) then
    bif decide (0 ≤ v5) then
      bif decide (v5 < (c0.2.1.length : Int)) then
        bif decide (0 ≤ v5) then
          bif decide (v5 < (c16.2.1.length : Int)) then
            bif (c0.2.1.getD v5.toNat (0, [], ())).1 != (c16.2.1.getD v5.toNat (0, [], ())).1 then
              some (.fin (.ret (false, ())))
            else
            bif decide (0 ≤ v5) then
              bif decide (v5 < (c0.2.1.length : Int)) then
                bif decide (0 ≤ v5) then
                  bif decide (v5 < (c16.2.1.length : Int)) then
                    (flotsamref01_Same ((c0.2.1.getD v5.toNat (0, [], ())).2.1, (c16.2.1.getD v5.toNat (0, [], ())).2.1, ())).bind fun y1 =>
                    bif !y1.1 then
                      some (.fin (.ret (false, ())))
                    else
                    some (.next (wi64 (v5 + 1), c0, c16, ()))
                  else none
                else none
              else none
            else none
          else none
        else none
      else none
    else none
  else
  some (.fin (.out (c0, c16, ())))
def flotsamref24_Same_s0 (x : Int × Model × Model × Unit) : Option (SRes (.cons cI (.cons cModel (.cons cModel .nil))) (.cons cModel (.cons cModel .nil)) (.cons .bool .nil)) := flotsamref24_Same_s0r x.1 x.2.1 x.2.2.1
def flotsamref24_Same_l0 (x : Int × Model × Model × Unit) : Option (LRes (.cons cModel (.cons cModel .nil)) (.cons .bool .nil)) := iterL (h := (.cons cI (.cons cModel (.cons cModel .nil)))) (o := (.cons cModel (.cons cModel .nil))) (r := (.cons .bool .nil)) flotsamref24_Same_s0 9223372036854775808 x
def flotsamref24_Same_s1r (v6 : Int) (c0 : Model) (c16 : Model) : Option (SRes (.cons cI (.cons cModel (.cons cModel .nil))) .nil (.cons .bool .nil)) :=
  bif decide (v6 < (c0.2.2.1.length : Int)) then
    bif decide (0 ≤ v6) then
      bif decide (v6 < (c0.2.2.1.length : Int)) then
        bif decide (0 ≤ v6) then
          bif decide (v6 < (c16.2.2.1.length : Int)) then
            (flotsamref01_Same (c0.2.2.1.getD v6.toNat [], c16.2.2.1.getD v6.toNat [], ())).bind fun y3 =>
            bif !y3.1 then
              some (.fin (.ret (false, ())))
            else
            some (.next (wi64 (v6 + 1), c0, c16, ()))
          else none
        else none
      else none
    else none
  else
  some (.fin (.out ()))
def flotsamref24_Same_s1 (x : Int × Model × Model × Unit) : Option (SRes (.cons cI (.cons cModel (.cons cModel .nil))) .nil (.cons .bool .nil)) := flotsamref24_Same_s1r x.1 x.2.1 x.2.2.1
def flotsamref24_Same_l1 (x : Int × Model × Model × Unit) : Option (LRes .nil (.cons .bool .nil)) := iterL (h := (.cons cI (.cons cModel (.cons cModel .nil)))) (o := .nil) (r := (.cons .bool .nil)) flotsamref24_Same_s1 9223372036854775808 x
def flotsamref24_Same_r (a0 : Model) (a1 : Model) : Option (Bool × Unit) :=
  bif a0.1 != a1.1 then
    some (false, ())
  else
  bif (a0.2.1.length : Int) != (a1.2.1.length : Int) then
    some (false, ())
  else
  bif (a0.2.2.1.length : Int) != (a1.2.2.1.length : Int) then
    some (false, ())
  else
  (flotsamref24_Same_l0 (0, a0, a1, ())).bind fun s2 => match s2 with
  | .out s2 =>
    (flotsamref24_Same_l1 (0, s2.1, s2.2.1, ())).bind fun s4 => match s4 with
    | .out s4 =>
      some (true, ())
    | .ret s4 =>
      some (s4.1, ())
  | .ret s2 =>
    some (s2.1, ())
def flotsamref24_Same (x : Model × Model × Unit) : Option (Bool × Unit) := flotsamref24_Same_r x.1 x.2.1
noncomputable def flotsamref24_Same_sm : Sum := ⟨(.cons cModel (.cons cModel .nil)), (.cons (.d .bool) .nil), flotsamref24_Same⟩
noncomputable def flotsamref24_Same_L0 : LoopSum := { hc := ⟨[], [2, 3, 5], [], [], [0, 16], [], 432⟩, h := ⟨[(2, (.pvar 0 [])), (3, (.pvar 16 [])), (5, (.d cI))], [(0, (.d cModel)), (16, (.d cModel))], [], 432⟩, xid := 0, oc := ⟨[], [2, 3], [], [], [0, 16], [], 432⟩, o := ⟨[(2, (.pvar 0 [])), (3, (.pvar 16 []))], [(0, (.d cModel)), (16, (.d cModel))], [], 432⟩, rc := ⟨[], [4], [], [], [], [], 432⟩, r := ⟨[(4, (.d .bool))], [], [], 432⟩, F := flotsamref24_Same_l0 }
noncomputable def flotsamref24_Same_L1 : LoopSum := { hc := ⟨[], [2, 3, 6], [], [], [0, 16], [], 448⟩, h := ⟨[(2, (.pvar 0 [])), (3, (.pvar 16 [])), (6, (.d cI))], [(0, (.d cModel)), (16, (.d cModel))], [], 448⟩, xid := 2, oc := ⟨[], [], [], [], [], [], 448⟩, o := ⟨[], [], [], 448⟩, rc := ⟨[], [4], [], [], [], [], 448⟩, r := ⟨[(4, (.d .bool))], [], [], 448⟩, F := flotsamref24_Same_l1 }
noncomputable def flotsamref24_Same_S : List (Nat × Sum) := [(18, flotsamref01_Same_sm)]
noncomputable def flotsamref24_Same_fl : List (Nat × Func) := []
noncomputable def flotsamref24_Same_es : List AE := [⟨8, 19, 0, 0, flotsamref24_Same_L0⟩, ⟨8, 19, 0, 2, flotsamref24_Same_L1⟩]
theorem flotsamref24_Same_den0 : (fun x => denStep TEv (look1 flotsamref24_Same_S) (look1 flotsamref24_Same_fl) (annOf flotsamref24_Same_es) 8 19 Go.Proofs.Try.f19.ntmps 0 (cat (bodyOf Go.Proofs.Try.f19) [true, true, false, true, false, false]) flotsamref24_Same_L0 x) = flotsamref24_Same_s0 := by kernel_rfl
theorem flotsamref24_Same_den1 : (fun x => denStep TEv (look1 flotsamref24_Same_S) (look1 flotsamref24_Same_fl) (annOf flotsamref24_Same_es) 8 19 Go.Proofs.Try.f19.ntmps 0 (cat (bodyOf Go.Proofs.Try.f19) [true, true, true, false, true, false, false]) flotsamref24_Same_L1 x) = flotsamref24_Same_s1 := by kernel_rfl
theorem flotsamref24_Same_den : (fun x => denFun TEv (look1 flotsamref24_Same_S) (look1 flotsamref24_Same_fl) (annOf flotsamref24_Same_es) 8 19 Go.Proofs.Try.f19 flotsamref24_Same_sm.a flotsamref24_Same_sm.r x) = flotsamref24_Same_sm.F := by kernel_rfl
theorem flotsamref24_Same_ok0 : AEok Go.Proofs.Try.prog TEv (look1 flotsamref24_Same_S) (look1 flotsamref24_Same_fl) (annOf flotsamref24_Same_es) ⟨8, 19, 0, 0, flotsamref24_Same_L0⟩ := aeok_of 9223372036854775808 Go.Proofs.Try.func19 (by kernel_rfl) flotsamref24_Same_den0 (by kernel_rfl)
theorem flotsamref24_Same_ok1 : AEok Go.Proofs.Try.prog TEv (look1 flotsamref24_Same_S) (look1 flotsamref24_Same_fl) (annOf flotsamref24_Same_es) ⟨8, 19, 0, 2, flotsamref24_Same_L1⟩ := aeok_of 9223372036854775808 Go.Proofs.Try.func19 (by kernel_rfl) flotsamref24_Same_den1 (by kernel_rfl)
theorem flotsamref24_Same_sem : SemOf Go.Proofs.Try.prog 19 flotsamref24_Same_sm :=
  semMk teOk (sl := flotsamref24_Same_S) (all_cons flotsamref01_Same_sem all_nil) (fl := flotsamref24_Same_fl) (all_nil) (es := flotsamref24_Same_es) Go.Proofs.Try.func19 (by kernel_rfl) rfl (rng_none (by kernel_rfl) (by kernel_rfl)) (all_cons flotsamref24_Same_ok0 (all_cons flotsamref24_Same_ok1 (all_nil))) rfl flotsamref24_Same_den

/-! ### flotsam/flotsamlaw24.ModelDoes -/
def flotsamlaw24_ModelDoes_r (a0 : Model) (a1 : Int) (a2 : Int) (a3 : Val) (a4 : Int) : Option (Bool × Unit) :=
  (flotsamlaw24_awake ()).bind fun y1 =>
  bif !y1.1 then
    (flotsamlaw24_awake ()).bind fun y2 =>
    some (y2.1, ())
  else
  (flotsamref24_Few (a0, ())).bind fun y3 =>
  bif !y3.1 then
    (flotsamlaw24_awake ()).bind fun y4 =>
    some (y4.1, ())
  else
  (model_Right (a0, ())).bind fun y5 =>
  (flotsamref24_Right (a0, ())).bind fun y6 =>
  bif !(y5.1 == y6.1) then
    (model_Right (a0, ())).bind fun y7 =>
    (flotsamref24_Right (a0, ())).bind fun y8 =>
    some (y7.1 == y8.1, ())
  else
  (flotsamref24_Right (a0, ())).bind fun y9 =>
  bif !y9.1 then
    (model_Right (a0, ())).bind fun y10 =>
    (flotsamref24_Right (a0, ())).bind fun y11 =>
    some (y10.1 == y11.1, ())
  else
  (model_Get (a0, a1, ())).bind fun y12 =>
  (flotsamref24_Get (a0, a1, ())).bind fun y13 =>
  (model_Make (a0, wi64 (a4.tmod 16), ())).bind fun y14 =>
  (flotsamref24_Make (a0, wi64 (a4.tmod 16), ())).bind fun y15 =>
  (model_Set (a0, a1, a2, a3, ())).bind fun y16 =>
  (flotsamref24_Set (a0, a1, a2, a3, ())).bind fun y17 =>
  bif y12.1.1 == y13.1.1 then
    (flotsamref01_Same (y12.1.2.1, y13.1.2.1, ())).bind fun y18 =>
    bif y18.1 then
      bif y12.2.1 == y13.2.1 then
        (flotsamref24_Same ((y14.1.1, y14.1.2.1, y14.1.2.2), (y15.1.1, y15.1.2.1, y15.1.2.2), ())).bind fun y19 =>
        bif y19.1 then
          bif y14.2.1 == y15.2.1 then
            (flotsamref24_Same (y16.1, y17.1, ())).bind fun y20 =>
            bif y20.1 then
              some (y16.2.1 == y17.2.1, ())
            else
            some (false, ())
          else
          some (false, ())
        else
        some (false, ())
      else
      some (false, ())
    else
    some (false, ())
  else
  some (false, ())
def flotsamlaw24_ModelDoes (x : Model × Int × Int × Val × Int × Unit) : Option (Bool × Unit) := flotsamlaw24_ModelDoes_r x.1 x.2.1 x.2.2.1 x.2.2.2.1 x.2.2.2.2.1
noncomputable def flotsamlaw24_ModelDoes_sm : Sum := ⟨(.cons cModel (.cons cI (.cons cI (.cons cVal (.cons (.int .u8) .nil))))), (.cons (.d .bool) .nil), flotsamlaw24_ModelDoes⟩
noncomputable def flotsamlaw24_ModelDoes_S : List (Nat × Sum) := [(8, flotsamlaw24_awake_sm), (9, flotsamref24_Few_sm), (10, model_Right_sm), (11, flotsamref24_Right_sm), (12, model_Get_sm), (13, flotsamref24_Get_sm), (14, model_Make_sm), (15, flotsamref24_Make_sm), (16, model_Set_sm), (17, flotsamref24_Set_sm), (18, flotsamref01_Same_sm), (19, flotsamref24_Same_sm)]
noncomputable def flotsamlaw24_ModelDoes_fl : List (Nat × Func) := []
noncomputable def flotsamlaw24_ModelDoes_es : List AE := []
theorem flotsamlaw24_ModelDoes_den : (fun x => denFun TEv (look1 flotsamlaw24_ModelDoes_S) (look1 flotsamlaw24_ModelDoes_fl) (annOf flotsamlaw24_ModelDoes_es) 8 3 Go.Proofs.Try.f3 flotsamlaw24_ModelDoes_sm.a flotsamlaw24_ModelDoes_sm.r x) = flotsamlaw24_ModelDoes_sm.F := by kernel_rfl
theorem flotsamlaw24_ModelDoes_sem : SemOf Go.Proofs.Try.prog 3 flotsamlaw24_ModelDoes_sm :=
  semMk teOk (sl := flotsamlaw24_ModelDoes_S) (all_cons flotsamlaw24_awake_sem (all_cons flotsamref24_Few_sem (all_cons model_Right_sem (all_cons flotsamref24_Right_sem (all_cons model_Get_sem (all_cons flotsamref24_Get_sem (all_cons model_Make_sem (all_cons flotsamref24_Make_sem (all_cons model_Set_sem (all_cons flotsamref24_Set_sem (all_cons flotsamref01_Same_sem (all_cons flotsamref24_Same_sem all_nil)))))))))))) (fl := flotsamlaw24_ModelDoes_fl) (all_nil) (es := flotsamlaw24_ModelDoes_es) Go.Proofs.Try.func3 (by kernel_rfl) rfl (rng_none (by kernel_rfl) (by kernel_rfl)) (all_nil) rfl flotsamlaw24_ModelDoes_den

/-! ### flotsam/flotsamlaw24.fits -/
def flotsamlaw24_fits_r (a0 : Model) : Option (Bool × Unit) :=
  (flotsamref24_Few (a0, ())).bind fun y1 =>
  bif y1.1 then
    (flotsamref24_Right (a0, ())).bind fun y2 =>
    some (y2.1, ())
  else
  some (false, ())
def flotsamlaw24_fits (x : Model × Unit) : Option (Bool × Unit) := flotsamlaw24_fits_r x.1
noncomputable def flotsamlaw24_fits_sm : Sum := ⟨(.cons cModel .nil), (.cons (.d .bool) .nil), flotsamlaw24_fits⟩
noncomputable def flotsamlaw24_fits_S : List (Nat × Sum) := [(9, flotsamref24_Few_sm), (11, flotsamref24_Right_sm)]
noncomputable def flotsamlaw24_fits_fl : List (Nat × Func) := []
noncomputable def flotsamlaw24_fits_es : List AE := []
theorem flotsamlaw24_fits_den : (fun x => denFun TEv (look1 flotsamlaw24_fits_S) (look1 flotsamlaw24_fits_fl) (annOf flotsamlaw24_fits_es) 8 20 Go.Proofs.Try.f20 flotsamlaw24_fits_sm.a flotsamlaw24_fits_sm.r x) = flotsamlaw24_fits_sm.F := by kernel_rfl
theorem flotsamlaw24_fits_sem : SemOf Go.Proofs.Try.prog 20 flotsamlaw24_fits_sm :=
  semMk teOk (sl := flotsamlaw24_fits_S) (all_cons flotsamref24_Few_sem (all_cons flotsamref24_Right_sem all_nil)) (fl := flotsamlaw24_fits_fl) (all_nil) (es := flotsamlaw24_fits_es) Go.Proofs.Try.func20 (by kernel_rfl) rfl (rng_none (by kernel_rfl) (by kernel_rfl)) (all_nil) rfl flotsamlaw24_fits_den

/-! ### flotsam/flotsamref24.Check -/
def flotsamref24_Check_r (a0 : Model) (a1 : Int) (a2 : Int) (a3 : Op) : Option (Int × Unit) :=
  bif decide (0 ≤ a1) then
    bif decide (a1 < (a0.2.2.1.length : Int)) then
      bif decide (((a0.2.2.1.getD a1.toNat []).length : Int) ≥ a2) then
        bif a3.1 == 0 then
          bif decide (a3.2.1 < 0) then
            some (1, ())
          else
          bif decide (a3.2.1 > 15) then
            some (1, ())
          else
          some (5, ())
        else
        bif a3.1 == 1 then
          bif decide (a3.2.1 < 0) then
            some (3, ())
          else
          bif decide (a3.2.1 ≥ ((a0.2.2.1.getD a1.toNat []).length : Int)) then
            some (3, ())
          else
          bif decide (0 ≤ a3.2.1) then
            bif decide (a3.2.1 < ((a0.2.2.1.getD a1.toNat []).length : Int)) then
              bif ((a0.2.2.1.getD a1.toNat []).getD a3.2.1.toNat (0, 0, ())).1 == 0 then
                some (2, ())
              else
              bif decide (0 ≤ a3.2.1) then
                bif decide (a3.2.1 < ((a0.2.2.1.getD a1.toNat []).length : Int)) then
                  bif ((a0.2.2.1.getD a1.toNat []).getD a3.2.1.toNat (0, 0, ())).1 != 2 then
                    some (7, ())
                  else
                  bif decide (0 ≤ a3.2.1) then
                    bif decide (a3.2.1 < ((a0.2.2.1.getD a1.toNat []).length : Int)) then
                      (flotsamref24_Get (a0, ((a0.2.2.1.getD a1.toNat []).getD a3.2.1.toNat (0, 0, ())).2.1, ())).bind fun y1 =>
                      bif !y1.2.1 then
                        some (1, ())
                      else
                      bif decide (a3.2.2.1 < 0) then
                        some (4, ())
                      else
                      bif decide (a3.2.2.1 ≥ (y1.1.2.1.length : Int)) then
                        some (4, ())
                      else
                      bif a3.1 == 1 then
                        some (5, ())
                      else
                      bif decide (a3.2.2.2.1 < 0) then
                        some (3, ())
                      else
                      bif decide (a3.2.2.2.1 ≥ ((a0.2.2.1.getD a1.toNat []).length : Int)) then
                        some (3, ())
                      else
                      some (0, ())
                    else none
                  else none
                else none
              else none
            else none
          else none
        else
        bif a3.1 == 2 then
          bif decide (a3.2.1 < 0) then
            some (3, ())
          else
          bif decide (a3.2.1 ≥ ((a0.2.2.1.getD a1.toNat []).length : Int)) then
            some (3, ())
          else
          bif decide (0 ≤ a3.2.1) then
            bif decide (a3.2.1 < ((a0.2.2.1.getD a1.toNat []).length : Int)) then
              bif ((a0.2.2.1.getD a1.toNat []).getD a3.2.1.toNat (0, 0, ())).1 == 0 then
                some (2, ())
              else
              bif decide (0 ≤ a3.2.1) then
                bif decide (a3.2.1 < ((a0.2.2.1.getD a1.toNat []).length : Int)) then
                  bif ((a0.2.2.1.getD a1.toNat []).getD a3.2.1.toNat (0, 0, ())).1 != 2 then
                    some (7, ())
                  else
                  bif decide (0 ≤ a3.2.1) then
                    bif decide (a3.2.1 < ((a0.2.2.1.getD a1.toNat []).length : Int)) then
                      (flotsamref24_Get (a0, ((a0.2.2.1.getD a1.toNat []).getD a3.2.1.toNat (0, 0, ())).2.1, ())).bind fun y2 =>
                      bif !y2.2.1 then
                        some (1, ())
                      else
                      bif decide (a3.2.2.1 < 0) then
                        some (4, ())
                      else
                      bif decide (a3.2.2.1 ≥ (y2.1.2.1.length : Int)) then
                        some (4, ())
                      else
                      bif a3.1 == 1 then
                        some (5, ())
                      else
                      bif decide (a3.2.2.2.1 < 0) then
                        some (3, ())
                      else
                      bif decide (a3.2.2.2.1 ≥ ((a0.2.2.1.getD a1.toNat []).length : Int)) then
                        some (3, ())
                      else
                      some (0, ())
                    else none
                  else none
                else none
              else none
            else none
          else none
        else
        bif a3.1 == 3 then
          bif decide (a3.2.1 < 0) then
            some (3, ())
          else
          bif decide (a3.2.1 ≥ ((a0.2.2.1.getD a1.toNat []).length : Int)) then
            some (3, ())
          else
          some (5, ())
        else
        bif a3.1 == 4 then
          bif decide (a3.2.1 < 0) then
            some (1, ())
          else
          bif decide (a3.2.1 > 1099511627776) then
            some (1, ())
          else
          some (5, ())
        else
        bif a3.1 == 5 then
          bif ((a0.2.2.1.getD a1.toNat []).length : Int) == 0 then
            some (3, ())
          else
          some (0, ())
        else
        bif a3.1 == 6 then
          some (0, ())
        else
        some (1, ())
      else
      bif a3.1 == 0 then
        bif decide (a3.2.1 < 0) then
          some (1, ())
        else
        bif decide (a3.2.1 > 15) then
          some (1, ())
        else
        some (0, ())
      else
      bif a3.1 == 1 then
        bif decide (a3.2.1 < 0) then
          some (3, ())
        else
        bif decide (a3.2.1 ≥ ((a0.2.2.1.getD a1.toNat []).length : Int)) then
          some (3, ())
        else
        bif decide (0 ≤ a3.2.1) then
          bif decide (a3.2.1 < ((a0.2.2.1.getD a1.toNat []).length : Int)) then
            bif ((a0.2.2.1.getD a1.toNat []).getD a3.2.1.toNat (0, 0, ())).1 == 0 then
              some (2, ())
            else
            bif decide (0 ≤ a3.2.1) then
              bif decide (a3.2.1 < ((a0.2.2.1.getD a1.toNat []).length : Int)) then
                bif ((a0.2.2.1.getD a1.toNat []).getD a3.2.1.toNat (0, 0, ())).1 != 2 then
                  some (7, ())
                else
                bif decide (0 ≤ a3.2.1) then
                  bif decide (a3.2.1 < ((a0.2.2.1.getD a1.toNat []).length : Int)) then
                    (flotsamref24_Get (a0, ((a0.2.2.1.getD a1.toNat []).getD a3.2.1.toNat (0, 0, ())).2.1, ())).bind fun y3 =>
                    bif !y3.2.1 then
                      some (1, ())
                    else
                    bif decide (a3.2.2.1 < 0) then
                      some (4, ())
                    else
                    bif decide (a3.2.2.1 ≥ (y3.1.2.1.length : Int)) then
                      some (4, ())
                    else
                    bif a3.1 == 1 then
                      some (0, ())
                    else
                    bif decide (a3.2.2.2.1 < 0) then
                      some (3, ())
                    else
                    bif decide (a3.2.2.2.1 ≥ ((a0.2.2.1.getD a1.toNat []).length : Int)) then
                      some (3, ())
                    else
                    some (0, ())
                  else none
                else none
              else none
            else none
          else none
        else none
      else
      bif a3.1 == 2 then
        bif decide (a3.2.1 < 0) then
          some (3, ())
        else
        bif decide (a3.2.1 ≥ ((a0.2.2.1.getD a1.toNat []).length : Int)) then
          some (3, ())
        else
        bif decide (0 ≤ a3.2.1) then
          bif decide (a3.2.1 < ((a0.2.2.1.getD a1.toNat []).length : Int)) then
            bif ((a0.2.2.1.getD a1.toNat []).getD a3.2.1.toNat (0, 0, ())).1 == 0 then
              some (2, ())
            else
            bif decide (0 ≤ a3.2.1) then
              bif decide (a3.2.1 < ((a0.2.2.1.getD a1.toNat []).length : Int)) then
                bif ((a0.2.2.1.getD a1.toNat []).getD a3.2.1.toNat (0, 0, ())).1 != 2 then
                  some (7, ())
                else
                bif decide (0 ≤ a3.2.1) then
                  bif decide (a3.2.1 < ((a0.2.2.1.getD a1.toNat []).length : Int)) then
                    (flotsamref24_Get (a0, ((a0.2.2.1.getD a1.toNat []).getD a3.2.1.toNat (0, 0, ())).2.1, ())).bind fun y4 =>
                    bif !y4.2.1 then
                      some (1, ())
                    else
                    bif decide (a3.2.2.1 < 0) then
                      some (4, ())
                    else
                    bif decide (a3.2.2.1 ≥ (y4.1.2.1.length : Int)) then
                      some (4, ())
                    else
                    bif a3.1 == 1 then
                      some (0, ())
                    else
                    bif decide (a3.2.2.2.1 < 0) then
                      some (3, ())
                    else
                    bif decide (a3.2.2.2.1 ≥ ((a0.2.2.1.getD a1.toNat []).length : Int)) then
                      some (3, ())
                    else
                    some (0, ())
                  else none
                else none
              else none
            else none
          else none
        else none
      else
      bif a3.1 == 3 then
        bif decide (a3.2.1 < 0) then
          some (3, ())
        else
        bif decide (a3.2.1 ≥ ((a0.2.2.1.getD a1.toNat []).length : Int)) then
          some (3, ())
        else
        some (0, ())
      else
      bif a3.1 == 4 then
        bif decide (a3.2.1 < 0) then
          some (1, ())
        else
        bif decide (a3.2.1 > 1099511627776) then
          some (1, ())
        else
        some (0, ())
      else
      bif a3.1 == 5 then
        bif ((a0.2.2.1.getD a1.toNat []).length : Int) == 0 then
          some (3, ())
        else
        some (0, ())
      else
      bif a3.1 == 6 then
        some (0, ())
      else
      some (1, ())
    else none
  else none
def flotsamref24_Check (x : Model × Int × Int × Op × Unit) : Option (Int × Unit) := flotsamref24_Check_r x.1 x.2.1 x.2.2.1 x.2.2.2.1
noncomputable def flotsamref24_Check_sm : Sum := ⟨(.cons cModel (.cons cI (.cons cI (.cons cOp .nil)))), (.cons (.d cI) .nil), flotsamref24_Check⟩
noncomputable def flotsamref24_Check_S : List (Nat × Sum) := [(13, flotsamref24_Get_sm)]
noncomputable def flotsamref24_Check_fl : List (Nat × Func) := []
noncomputable def flotsamref24_Check_es : List AE := []
theorem flotsamref24_Check_den : (fun x => denFun TEv (look1 flotsamref24_Check_S) (look1 flotsamref24_Check_fl) (annOf flotsamref24_Check_es) 8 22 Go.Proofs.Try.f22 flotsamref24_Check_sm.a flotsamref24_Check_sm.r x) = flotsamref24_Check_sm.F := by kernel_rfl
theorem flotsamref24_Check_sem : SemOf Go.Proofs.Try.prog 22 flotsamref24_Check_sm :=
  semMk teOk (sl := flotsamref24_Check_S) (all_cons flotsamref24_Get_sem all_nil) (fl := flotsamref24_Check_fl) (all_nil) (es := flotsamref24_Check_es) Go.Proofs.Try.func22 (by kernel_rfl) rfl (rng_none (by kernel_rfl) (by kernel_rfl)) (all_nil) rfl flotsamref24_Check_den

/-! ### flotsam/flotsamlaw24.ModelChecks -/
def flotsamlaw24_ModelChecks_r (a0 : Model) (a1 : Int) (a2 : Int) (a3 : Op) : Option (Bool × Unit) :=
  (flotsamlaw24_awake ()).bind fun y1 =>
  bif !y1.1 then
    (flotsamlaw24_awake ()).bind fun y2 =>
    some (y2.1, ())
  else
  (flotsamlaw24_fits (a0, ())).bind fun y3 =>
  bif !y3.1 then
    (flotsamlaw24_awake ()).bind fun y4 =>
    some (y4.1, ())
  else
  bif decide (a1 < 0) then
    (flotsamlaw24_awake ()).bind fun y5 =>
    some (y5.1, ())
  else
  bif decide (a1 ≥ (a0.2.2.1.length : Int)) then
    (flotsamlaw24_awake ()).bind fun y6 =>
    some (y6.1, ())
  else
  (model_Check (a0, a1, a2, a3, ())).bind fun y7 =>
  (flotsamref24_Check (a0, a1, a2, a3, ())).bind fun y8 =>
  some (y7.1 == y8.1, ())
def flotsamlaw24_ModelChecks (x : Model × Int × Int × Op × Unit) : Option (Bool × Unit) := flotsamlaw24_ModelChecks_r x.1 x.2.1 x.2.2.1 x.2.2.2.1
noncomputable def flotsamlaw24_ModelChecks_sm : Sum := ⟨(.cons cModel (.cons cI (.cons cI (.cons cOp .nil)))), (.cons (.d .bool) .nil), flotsamlaw24_ModelChecks⟩
noncomputable def flotsamlaw24_ModelChecks_S : List (Nat × Sum) := [(8, flotsamlaw24_awake_sm), (20, flotsamlaw24_fits_sm), (21, model_Check_sm), (22, flotsamref24_Check_sm)]
noncomputable def flotsamlaw24_ModelChecks_fl : List (Nat × Func) := []
noncomputable def flotsamlaw24_ModelChecks_es : List AE := []
theorem flotsamlaw24_ModelChecks_den : (fun x => denFun TEv (look1 flotsamlaw24_ModelChecks_S) (look1 flotsamlaw24_ModelChecks_fl) (annOf flotsamlaw24_ModelChecks_es) 8 4 Go.Proofs.Try.f4 flotsamlaw24_ModelChecks_sm.a flotsamlaw24_ModelChecks_sm.r x) = flotsamlaw24_ModelChecks_sm.F := by kernel_rfl
theorem flotsamlaw24_ModelChecks_sem : SemOf Go.Proofs.Try.prog 4 flotsamlaw24_ModelChecks_sm :=
  semMk teOk (sl := flotsamlaw24_ModelChecks_S) (all_cons flotsamlaw24_awake_sem (all_cons flotsamlaw24_fits_sem (all_cons model_Check_sem (all_cons flotsamref24_Check_sem all_nil)))) (fl := flotsamlaw24_ModelChecks_fl) (all_nil) (es := flotsamlaw24_ModelChecks_es) Go.Proofs.Try.func4 (by kernel_rfl) rfl (rng_none (by kernel_rfl) (by kernel_rfl)) (all_nil) rfl flotsamlaw24_ModelChecks_den

/-! ### flotsam/flotsamref24.Reach -/
def flotsamref24_Reach_s0r (v1 : List Val) (v6 : Int) (v7 : Int) (v8 : Int) (c0 : Model) (r80 : List Bool) : Option (SRes (.cons (.sl cVal) (.cons cI (.cons cI (.cons cI (.cons cModel (.cons (.sl .bool) .nil)))))) (.cons (.sl cVal) (.cons cI (.cons cI (.cons cModel (.cons (.sl .bool) .nil))))) .nil) :=
  bif decide (v8 < (v1.length : Int)) then
    bif decide (0 ≤ v7) then
      bif decide (v7 < (r80.length : Int)) then
        bif r80.getD v7.toNat false then
          bif decide (0 ≤ v7) then
            bif decide (v7 < (r80.length : Int)) then
              some (.next (v1, v6, v7, wi64 (v8 + 1), c0, r80.set v7.toNat true, ()))
            else none
          else none
        else
        bif decide (0 ≤ v8) then
          bif decide (v8 < (v1.length : Int)) then
            bif (v1.getD v8.toNat (0, 0, ())).1 == 2 then
              bif decide (0 ≤ v8) then
                bif decide (v8 < (v1.length : Int)) then
                  bif decide (0 ≤ v7) then
                    bif decide (v7 < (c0.2.1.length : Int)) then
                      bif decide (0 ≤ v7) then
                        bif decide (v7 < (r80.length : Int)) then
                          some (.next (v1, v6, v7, wi64 (v8 + 1), c0, r80.set v7.toNat ((v1.getD v8.toNat (0, 0, ())).2.1 == (c0.2.1.getD v7.toNat (0, [], ())).1), ()))
                        else none
                      else none
                    else none
                  else none
                else none
              else none
            else
            bif decide (0 ≤ v7) then
              bif decide (v7 < (r80.length : Int)) then
                some (.next (v1, v6, v7, wi64 (v8 + 1), c0, r80.set v7.toNat false, ()))
              else none
            else none
          else none
        else none
      else none
    else none
  else
  some (.fin (.out (v1, v6, v7, c0, r80, ())))
def flotsamref24_Reach_s0 (x : (List Val) × Int × Int × Int × Model × (List Bool) × Unit) : Option (SRes (.cons (.sl cVal) (.cons cI (.cons cI (.cons cI (.cons cModel (.cons (.sl .bool) .nil)))))) (.cons (.sl cVal) (.cons cI (.cons cI (.cons cModel (.cons (.sl .bool) .nil))))) .nil) := flotsamref24_Reach_s0r x.1 x.2.1 x.2.2.1 x.2.2.2.1 x.2.2.2.2.1 x.2.2.2.2.2.1
def flotsamref24_Reach_l0 (x : (List Val) × Int × Int × Int × Model × (List Bool) × Unit) : Option (LRes (.cons (.sl cVal) (.cons cI (.cons cI (.cons cModel (.cons (.sl .bool) .nil))))) .nil) := iterL (h := (.cons (.sl cVal) (.cons cI (.cons cI (.cons cI (.cons cModel (.cons (.sl .bool) .nil))))))) (o := (.cons (.sl cVal) (.cons cI (.cons cI (.cons cModel (.cons (.sl .bool) .nil)))))) (r := .nil) flotsamref24_Reach_s0 9223372036854775808 x
def flotsamref24_Reach_s1r (v1 : List Val) (v6 : Int) (v7 : Int) (v9 : Int) (v10 : Int) (c0 : Model) (r80 : List Bool) : Option (SRes (.cons (.sl cVal) (.cons cI (.cons cI (.cons cI (.cons cI (.cons cModel (.cons (.sl .bool) .nil))))))) (.cons (.sl cVal) (.cons cI (.cons cI (.cons cI (.cons cModel (.cons (.sl .bool) .nil)))))) .nil) :=
  bif decide (0 ≤ v9) then
    bif decide (v9 < (c0.2.1.length : Int)) then
      bif decide (v10 < ((c0.2.1.getD v9.toNat (0, [], ())).2.1.length : Int)) then
        bif decide (0 ≤ v9) then
          bif decide (v9 < (r80.length : Int)) then
            bif r80.getD v9.toNat false then
              bif decide (0 ≤ v9) then
                bif decide (v9 < (c0.2.1.length : Int)) then
                  bif decide (0 ≤ v10) then
                    bif decide (v10 < ((c0.2.1.getD v9.toNat (0, [], ())).2.1.length : Int)) then
                      bif decide (0 ≤ v7) then
                        bif decide (v7 < (r80.length : Int)) then
                          bif r80.getD v7.toNat false then
                            bif decide (0 ≤ v7) then
                              bif decide (v7 < (r80.length : Int)) then
                                some (.next (v1, v6, v7, v9, wi64 (v10 + 1), c0, r80.set v7.toNat true, ()))
                              else none
                            else none
                          else
                          bif ((c0.2.1.getD v9.toNat (0, [], ())).2.1.getD v10.toNat (0, 0, ())).1 == 2 then
                            bif decide (0 ≤ v7) then
                              bif decide (v7 < (c0.2.1.length : Int)) then
                                bif decide (0 ≤ v7) then
                                  bif decide (v7 < (r80.length : Int)) then
                                    some (.next (v1, v6, v7, v9, wi64 (v10 + 1), c0, r80.set v7.toNat (((c0.2.1.getD v9.toNat (0, [], ())).2.1.getD v10.toNat (0, 0, ())).2.1 == (c0.2.1.getD v7.toNat (0, [], ())).1), ()))
                                  else none
                                else none
                              else none
                            else none
                          else
                          bif decide (0 ≤ v7) then
                            bif decide (v7 < (r80.length : Int)) then
                              some (.next (v1, v6, v7, v9, wi64 (v10 + 1), c0, r80.set v7.toNat false, ()))
                            else none
                          else none
                        else none
                      else none
                    else none
                  else none
                else none
              else none
            else
            some (.fin (.out (v1, v6, v7, v9, c0, r80, ())))
          else none
        else none
      else
      some (.fin (.out (v1, v6, v7, v9, c0, r80, ())))
    else none
  else none
def flotsamref24_Reach_s1 (x : (List Val) × Int × Int × Int × Int × Model × (List Bool) × Unit) : Option (SRes (.cons (.sl cVal) (.cons cI (.cons cI (.cons cI (.cons cI (.cons cModel (.cons (.sl .bool) .nil))))))) (.cons (.sl cVal) (.cons cI (.cons cI (.cons cI (.cons cModel (.cons (.sl .bool) .nil)))))) .nil) := flotsamref24_Reach_s1r x.1 x.2.1 x.2.2.1 x.2.2.2.1 x.2.2.2.2.1 x.2.2.2.2.2.1 x.2.2.2.2.2.2.1
def flotsamref24_Reach_l1 (x : (List Val) × Int × Int × Int × Int × Model × (List Bool) × Unit) : Option (LRes (.cons (.sl cVal) (.cons cI (.cons cI (.cons cI (.cons cModel (.cons (.sl .bool) .nil)))))) .nil) := iterL (h := (.cons (.sl cVal) (.cons cI (.cons cI (.cons cI (.cons cI (.cons cModel (.cons (.sl .bool) .nil)))))))) (o := (.cons (.sl cVal) (.cons cI (.cons cI (.cons cI (.cons cModel (.cons (.sl .bool) .nil))))))) (r := .nil) flotsamref24_Reach_s1 9223372036854775808 x
def flotsamref24_Reach_s2r (v1 : List Val) (v6 : Int) (v7 : Int) (v9 : Int) (c0 : Model) (r80 : List Bool) : Option (SRes (.cons (.sl cVal) (.cons cI (.cons cI (.cons cI (.cons cModel (.cons (.sl .bool) .nil)))))) (.cons (.sl cVal) (.cons cI (.cons cI (.cons cModel (.cons (.sl .bool) .nil))))) .nil) :=
  bif decide (v9 < (c0.2.1.length : Int)) then
    (flotsamref24_Reach_l1 (v1, v6, v7, v9, 0, c0, r80, ())).bind fun s2 => match s2 with
    | .out s2 =>
      some (.next (s2.1, s2.2.1, s2.2.2.1, wi64 (s2.2.2.2.1 + 1), s2.2.2.2.2.1, s2.2.2.2.2.2.1, ()))
    | .ret s2 =>
      none
  else
  some (.fin (.out (v1, v6, v7, c0, r80, ())))
def flotsamref24_Reach_s2 (x : (List Val) × Int × Int × Int × Model × (List Bool) × Unit) : Option (SRes (.cons (.sl cVal) (.cons cI (.cons cI (.cons cI (.cons cModel (.cons (.sl .bool) .nil)))))) (.cons (.sl cVal) (.cons cI (.cons cI (.cons cModel (.cons (.sl .bool) .nil))))) .nil) := flotsamref24_Reach_s2r x.1 x.2.1 x.2.2.1 x.2.2.2.1 x.2.2.2.2.1 x.2.2.2.2.2.1
def flotsamref24_Reach_l2 (x : (List Val) × Int × Int × Int × Model × (List Bool) × Unit) : Option (LRes (.cons (.sl cVal) (.cons cI (.cons cI (.cons cModel (.cons (.sl .bool) .nil))))) .nil) := iterL (h := (.cons (.sl cVal) (.cons cI (.cons cI (.cons cI (.cons cModel (.cons (.sl .bool) .nil))))))) (o := (.cons (.sl cVal) (.cons cI (.cons cI (.cons cModel (.cons (.sl .bool) .nil)))))) (r := .nil) flotsamref24_Reach_s2 9223372036854775808 x
def flotsamref24_Reach_s3r (v1 : List Val) (v6 : Int) (v7 : Int) (c0 : Model) (r80 : List Bool) : Option (SRes (.cons (.sl cVal) (.cons cI (.cons cI (.cons cModel (.cons (.sl .bool) .nil))))) (.cons (.sl cVal) (.cons cI (.cons cModel (.cons (.sl .bool) .nil)))) .nil) :=
  bif decide (v7 < (c0.2.1.length : Int)) then
    (flotsamref24_Reach_l0 (v1, v6, v7, 0, c0, r80, ())).bind fun s1 => match s1 with
    | .out s1 =>
      (flotsamref24_Reach_l2 (s1.1, s1.2.1, s1.2.2.1, 0, s1.2.2.2.1, s1.2.2.2.2.1, ())).bind fun s3 => match s3 with
      | .out s3 =>
        some (.next (s3.1, s3.2.1, wi64 (s3.2.2.1 + 1), s3.2.2.2.1, s3.2.2.2.2.1, ()))
      | .ret s3 =>
        none
    | .ret s1 =>
      none
  else
  some (.fin (.out (v1, v6, c0, r80, ())))
def flotsamref24_Reach_s3 (x : (List Val) × Int × Int × Model × (List Bool) × Unit) : Option (SRes (.cons (.sl cVal) (.cons cI (.cons cI (.cons cModel (.cons (.sl .bool) .nil))))) (.cons (.sl cVal) (.cons cI (.cons cModel (.cons (.sl .bool) .nil)))) .nil) := flotsamref24_Reach_s3r x.1 x.2.1 x.2.2.1 x.2.2.2.1 x.2.2.2.2.1
def flotsamref24_Reach_l3 (x : (List Val) × Int × Int × Model × (List Bool) × Unit) : Option (LRes (.cons (.sl cVal) (.cons cI (.cons cModel (.cons (.sl .bool) .nil)))) .nil) := iterL (h := (.cons (.sl cVal) (.cons cI (.cons cI (.cons cModel (.cons (.sl .bool) .nil)))))) (o := (.cons (.sl cVal) (.cons cI (.cons cModel (.cons (.sl .bool) .nil))))) (r := .nil) flotsamref24_Reach_s3 9223372036854775808 x
def flotsamref24_Reach_s4r (v1 : List Val) (v6 : Int) (c0 : Model) (r80 : List Bool) : Option (SRes (.cons (.sl cVal) (.cons cI (.cons cModel (.cons (.sl .bool) .nil)))) (.cons cModel (.cons (.sl .bool) .nil)) .nil) :=
  bif decide (v6 ≤ (c0.2.1.length : Int)) then
    (flotsamref24_Reach_l3 (v1, v6, 0, c0, r80, ())).bind fun s4 => match s4 with
    | .out s4 =>
      some (.next (s4.1, wi64 (s4.2.1 + 1), s4.2.2.1, s4.2.2.2.1, ()))
    | .ret s4 =>
      none
  else
  some (.fin (.out (c0, r80, ())))
def flotsamref24_Reach_s4 (x : (List Val) × Int × Model × (List Bool) × Unit) : Option (SRes (.cons (.sl cVal) (.cons cI (.cons cModel (.cons (.sl .bool) .nil)))) (.cons cModel (.cons (.sl .bool) .nil)) .nil) := flotsamref24_Reach_s4r x.1 x.2.1 x.2.2.1 x.2.2.2.1
def flotsamref24_Reach_l4 (x : (List Val) × Int × Model × (List Bool) × Unit) : Option (LRes (.cons cModel (.cons (.sl .bool) .nil)) .nil) := iterL (h := (.cons (.sl cVal) (.cons cI (.cons cModel (.cons (.sl .bool) .nil))))) (o := (.cons cModel (.cons (.sl .bool) .nil))) (r := .nil) flotsamref24_Reach_s4 9223372036854775808 x
def flotsamref24_Reach_s5r (v13 : Int) (c0 : Model) (r80 : List Bool) (r160 : List Int) : Option (SRes (.cons cI (.cons cModel (.cons (.sl .bool) (.cons (.sl cI) .nil)))) (.cons (.sl cI) .nil) .nil) :=
  bif decide (v13 < (c0.2.1.length : Int)) then
    bif decide (0 ≤ v13) then
      bif decide (v13 < (r80.length : Int)) then
        bif r80.getD v13.toNat false then
          bif decide (0 ≤ v13) then
            bif decide (v13 < (c0.2.1.length : Int)) then
              bif decide ((r160.length + 1) * 8 ≤ 140737488355328) then
                some (.next (wi64 (v13 + 1), c0, r80, r160 ++ [(c0.2.1.getD v13.toNat (0, [], ())).1], ()))
              else none
            else none
          else none
        else
        some (.next (wi64 (v13 + 1), c0, r80, r160, ()))
      else none
    else none
  else
  some (.fin (.out (r160, ())))
def flotsamref24_Reach_s5 (x : Int × Model × (List Bool) × (List Int) × Unit) : Option (SRes (.cons cI (.cons cModel (.cons (.sl .bool) (.cons (.sl cI) .nil)))) (.cons (.sl cI) .nil) .nil) := flotsamref24_Reach_s5r x.1 x.2.1 x.2.2.1 x.2.2.2.1
def flotsamref24_Reach_l5 (x : Int × Model × (List Bool) × (List Int) × Unit) : Option (LRes (.cons (.sl cI) .nil) .nil) := iterL (h := (.cons cI (.cons cModel (.cons (.sl .bool) (.cons (.sl cI) .nil))))) (o := (.cons (.sl cI) .nil)) (r := .nil) flotsamref24_Reach_s5 9223372036854775808 x
def flotsamref24_Reach_r (a0 : Model) (a1 : List Val) : Option ((List Int) × Unit) :=
  bif (a0.2.1.length : Int) == (a0.2.1.length : Int) then
    bif decide (0 ≤ (a0.2.1.length : Int)) then
      bif decide ((a0.2.1.length : Int).toNat * 1 ≤ 140737488355328) then
        (flotsamref24_Reach_l4 (a1, 0, a0, List.replicate (a0.2.1.length : Int).toNat false, ())).bind fun s5 => match s5 with
        | .out s5 =>
          (flotsamref24_Reach_l5 (0, s5.1, s5.2.1, [], ())).bind fun s6 => match s6 with
          | .out s6 =>
            some (s6.1, ())
          | .ret s6 =>
            none
        | .ret s5 =>
          none
      else none
    else none
  else none
def flotsamref24_Reach (x : Model × (List Val) × Unit) : Option ((List Int) × Unit) := flotsamref24_Reach_r x.1 x.2.1
noncomputable def flotsamref24_Reach_sm : Sum := ⟨(.cons cModel (.cons (.sl cVal) .nil)), (.cons (.own cI) .nil), flotsamref24_Reach⟩
noncomputable def flotsamref24_Reach_L0 : LoopSum := { hc := ⟨[], [1, 2, 5, 6, 7, 8], [], [], [0], [80], 320⟩, h := ⟨[(1, (.d (.sl cVal))), (2, (.pvar 0 [])), (5, (.row 80)), (6, (.d cI)), (7, (.d cI)), (8, (.d cI))], [(0, (.d cModel))], [(80, .bool, true)], 320⟩, xid := 4, oc := ⟨[], [1, 2, 5, 6, 7], [], [], [0], [80], 320⟩, o := ⟨[(1, (.d (.sl cVal))), (2, (.pvar 0 [])), (5, (.row 80)), (6, (.d cI)), (7, (.d cI))], [(0, (.d cModel))], [(80, .bool, true)], 320⟩, rc := ⟨[], [], [], [], [320], [], 320⟩, r := ⟨[], [], [], 320⟩, F := flotsamref24_Reach_l0 }
noncomputable def flotsamref24_Reach_L1 : LoopSum := { hc := ⟨[], [1, 2, 5, 6, 7, 9, 10], [], [], [0], [80], 432⟩, h := ⟨[(1, (.d (.sl cVal))), (2, (.pvar 0 [])), (5, (.row 80)), (6, (.d cI)), (7, (.d cI)), (9, (.d cI)), (10, (.d cI))], [(0, (.d cModel))], [(80, .bool, true)], 432⟩, xid := 8, oc := ⟨[], [1, 2, 5, 6, 7, 9], [], [], [0], [80], 432⟩, o := ⟨[(1, (.d (.sl cVal))), (2, (.pvar 0 [])), (5, (.row 80)), (6, (.d cI)), (7, (.d cI)), (9, (.d cI))], [(0, (.d cModel))], [(80, .bool, true)], 432⟩, rc := ⟨[], [], [], [], [432], [], 432⟩, r := ⟨[], [], [], 432⟩, F := flotsamref24_Reach_l1 }
noncomputable def flotsamref24_Reach_L2 : LoopSum := { hc := ⟨[], [1, 2, 5, 6, 7, 9], [], [], [0], [80], 336⟩, h := ⟨[(1, (.d (.sl cVal))), (2, (.pvar 0 [])), (5, (.row 80)), (6, (.d cI)), (7, (.d cI)), (9, (.d cI))], [(0, (.d cModel))], [(80, .bool, true)], 336⟩, xid := 6, oc := ⟨[], [1, 2, 5, 6, 7], [], [], [0], [80], 336⟩, o := ⟨[(1, (.d (.sl cVal))), (2, (.pvar 0 [])), (5, (.row 80)), (6, (.d cI)), (7, (.d cI))], [(0, (.d cModel))], [(80, .bool, true)], 336⟩, rc := ⟨[], [], [], [], [336], [], 336⟩, r := ⟨[], [], [], 336⟩, F := flotsamref24_Reach_l2 }
noncomputable def flotsamref24_Reach_L3 : LoopSum := { hc := ⟨[], [1, 2, 5, 6, 7], [], [], [0], [80], 224⟩, h := ⟨[(1, (.d (.sl cVal))), (2, (.pvar 0 [])), (5, (.row 80)), (6, (.d cI)), (7, (.d cI))], [(0, (.d cModel))], [(80, .bool, true)], 224⟩, xid := 2, oc := ⟨[], [1, 2, 5, 6], [], [], [0], [80], 224⟩, o := ⟨[(1, (.d (.sl cVal))), (2, (.pvar 0 [])), (5, (.row 80)), (6, (.d cI))], [(0, (.d cModel))], [(80, .bool, true)], 224⟩, rc := ⟨[], [], [], [], [224], [], 224⟩, r := ⟨[], [], [], 224⟩, F := flotsamref24_Reach_l3 }
noncomputable def flotsamref24_Reach_L4 : LoopSum := { hc := ⟨[], [1, 2, 5, 6], [], [], [0], [80], 128⟩, h := ⟨[(1, (.d (.sl cVal))), (2, (.pvar 0 [])), (5, (.row 80)), (6, (.d cI))], [(0, (.d cModel))], [(80, .bool, true)], 128⟩, xid := 0, oc := ⟨[], [2, 5], [], [], [0], [80], 128⟩, o := ⟨[(2, (.pvar 0 [])), (5, (.row 80))], [(0, (.d cModel))], [(80, .bool, true)], 128⟩, rc := ⟨[], [], [], [], [128], [], 128⟩, r := ⟨[], [], [], 128⟩, F := flotsamref24_Reach_l4 }
noncomputable def flotsamref24_Reach_L5 : LoopSum := { hc := ⟨[], [2, 5, 12, 13], [(.tmp 12, cI)], [], [0], [80], 160⟩, h := ⟨[(2, (.pvar 0 [])), (5, (.row 80)), (12, (.row 160)), (13, (.d cI))], [(0, (.d cModel))], [(80, .bool, true), (160, cI, true)], 161⟩, xid := 10, oc := ⟨[], [12], [(.tmp 12, cI)], [], [], [], 160⟩, o := ⟨[(12, (.row 160))], [], [(160, cI, true)], 161⟩, rc := ⟨[], [], [], [], [160], [], 160⟩, r := ⟨[], [], [], 160⟩, F := flotsamref24_Reach_l5 }
noncomputable def flotsamref24_Reach_S : List (Nat × Sum) := []
noncomputable def flotsamref24_Reach_fl : List (Nat × Func) := []
noncomputable def flotsamref24_Reach_es : List AE := [⟨8, 25, 0, 4, flotsamref24_Reach_L0⟩, ⟨8, 25, 0, 8, flotsamref24_Reach_L1⟩, ⟨8, 25, 0, 6, flotsamref24_Reach_L2⟩, ⟨8, 25, 0, 2, flotsamref24_Reach_L3⟩, ⟨8, 25, 0, 0, flotsamref24_Reach_L4⟩, ⟨8, 25, 0, 10, flotsamref24_Reach_L5⟩]
theorem flotsamref24_Reach_den0 : (fun x => denStep TEv (look1 flotsamref24_Reach_S) (look1 flotsamref24_Reach_fl) (annOf flotsamref24_Reach_es) 8 25 Go.Proofs.Try.f25.ntmps 0 (cat (bodyOf Go.Proofs.Try.f25) [true, true, false, true, false, false, true, false, false, true, false, false, true, false, false, false, true, false, false]) flotsamref24_Reach_L0 x) = flotsamref24_Reach_s0 := by kernel_rfl
theorem flotsamref24_Reach_den1 : (fun x => denStep TEv (look1 flotsamref24_Reach_S) (look1 flotsamref24_Reach_fl) (annOf flotsamref24_Reach_es) 8 25 Go.Proofs.Try.f25.ntmps 0 (cat (bodyOf Go.Proofs.Try.f25) [true, true, false, true, false, false, true, false, false, true, false, false, true, false, false, true, true, false, false, true, false, false, true, false, false]) flotsamref24_Reach_L1 x) = flotsamref24_Reach_s1 := by kernel_rfl
theorem flotsamref24_Reach_den2 : (fun x => denStep TEv (look1 flotsamref24_Reach_S) (look1 flotsamref24_Reach_fl) (annOf flotsamref24_Reach_es) 8 25 Go.Proofs.Try.f25.ntmps 0 (cat (bodyOf Go.Proofs.Try.f25) [true, true, false, true, false, false, true, false, false, true, false, false, true, false, false, true, true, false, false]) flotsamref24_Reach_L2 x) = flotsamref24_Reach_s2 := by kernel_rfl
theorem flotsamref24_Reach_den3 : (fun x => denStep TEv (look1 flotsamref24_Reach_S) (look1 flotsamref24_Reach_fl) (annOf flotsamref24_Reach_es) 8 25 Go.Proofs.Try.f25.ntmps 0 (cat (bodyOf Go.Proofs.Try.f25) [true, true, false, true, false, false, true, false, false, true, false, false]) flotsamref24_Reach_L3 x) = flotsamref24_Reach_s3 := by kernel_rfl
theorem flotsamref24_Reach_den4 : (fun x => denStep TEv (look1 flotsamref24_Reach_S) (look1 flotsamref24_Reach_fl) (annOf flotsamref24_Reach_es) 8 25 Go.Proofs.Try.f25.ntmps 0 (cat (bodyOf Go.Proofs.Try.f25) [true, true, false, true, false, false]) flotsamref24_Reach_L4 x) = flotsamref24_Reach_s4 := by kernel_rfl
theorem flotsamref24_Reach_den5 : (fun x => denStep TEv (look1 flotsamref24_Reach_S) (look1 flotsamref24_Reach_fl) (annOf flotsamref24_Reach_es) 8 25 Go.Proofs.Try.f25.ntmps 0 (cat (bodyOf Go.Proofs.Try.f25) [true, true, true, true, false, true, false, false]) flotsamref24_Reach_L5 x) = flotsamref24_Reach_s5 := by kernel_rfl
theorem flotsamref24_Reach_den : (fun x => denFun TEv (look1 flotsamref24_Reach_S) (look1 flotsamref24_Reach_fl) (annOf flotsamref24_Reach_es) 8 25 Go.Proofs.Try.f25 flotsamref24_Reach_sm.a flotsamref24_Reach_sm.r x) = flotsamref24_Reach_sm.F := by kernel_rfl
theorem flotsamref24_Reach_ok0 : AEok Go.Proofs.Try.prog TEv (look1 flotsamref24_Reach_S) (look1 flotsamref24_Reach_fl) (annOf flotsamref24_Reach_es) ⟨8, 25, 0, 4, flotsamref24_Reach_L0⟩ := aeok_of 9223372036854775808 Go.Proofs.Try.func25 (by kernel_rfl) flotsamref24_Reach_den0 (by kernel_rfl)
theorem flotsamref24_Reach_ok1 : AEok Go.Proofs.Try.prog TEv (look1 flotsamref24_Reach_S) (look1 flotsamref24_Reach_fl) (annOf flotsamref24_Reach_es) ⟨8, 25, 0, 8, flotsamref24_Reach_L1⟩ := aeok_of 9223372036854775808 Go.Proofs.Try.func25 (by kernel_rfl) flotsamref24_Reach_den1 (by kernel_rfl)
theorem flotsamref24_Reach_ok2 : AEok Go.Proofs.Try.prog TEv (look1 flotsamref24_Reach_S) (look1 flotsamref24_Reach_fl) (annOf flotsamref24_Reach_es) ⟨8, 25, 0, 6, flotsamref24_Reach_L2⟩ := aeok_of 9223372036854775808 Go.Proofs.Try.func25 (by kernel_rfl) flotsamref24_Reach_den2 (by kernel_rfl)
theorem flotsamref24_Reach_ok3 : AEok Go.Proofs.Try.prog TEv (look1 flotsamref24_Reach_S) (look1 flotsamref24_Reach_fl) (annOf flotsamref24_Reach_es) ⟨8, 25, 0, 2, flotsamref24_Reach_L3⟩ := aeok_of 9223372036854775808 Go.Proofs.Try.func25 (by kernel_rfl) flotsamref24_Reach_den3 (by kernel_rfl)
theorem flotsamref24_Reach_ok4 : AEok Go.Proofs.Try.prog TEv (look1 flotsamref24_Reach_S) (look1 flotsamref24_Reach_fl) (annOf flotsamref24_Reach_es) ⟨8, 25, 0, 0, flotsamref24_Reach_L4⟩ := aeok_of 9223372036854775808 Go.Proofs.Try.func25 (by kernel_rfl) flotsamref24_Reach_den4 (by kernel_rfl)
theorem flotsamref24_Reach_ok5 : AEok Go.Proofs.Try.prog TEv (look1 flotsamref24_Reach_S) (look1 flotsamref24_Reach_fl) (annOf flotsamref24_Reach_es) ⟨8, 25, 0, 10, flotsamref24_Reach_L5⟩ := aeok_of 9223372036854775808 Go.Proofs.Try.func25 (by kernel_rfl) flotsamref24_Reach_den5 (by kernel_rfl)
theorem flotsamref24_Reach_sem : SemOf Go.Proofs.Try.prog 25 flotsamref24_Reach_sm :=
  semMk teOk (sl := flotsamref24_Reach_S) (all_nil) (fl := flotsamref24_Reach_fl) (all_nil) (es := flotsamref24_Reach_es) Go.Proofs.Try.func25 (by kernel_rfl) rfl (rng_none (by kernel_rfl) (by kernel_rfl)) (all_cons flotsamref24_Reach_ok0 (all_cons flotsamref24_Reach_ok1 (all_cons flotsamref24_Reach_ok2 (all_cons flotsamref24_Reach_ok3 (all_cons flotsamref24_Reach_ok4 (all_cons flotsamref24_Reach_ok5 (all_nil))))))) rfl flotsamref24_Reach_den
end Go.Proofs.Ytdiogegolnoeoaa.Den
