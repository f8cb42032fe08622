/- What functions come to. Printed by a program of this session. -/
import Derived.Test.YtdiogegolnoeoaaDenF0
namespace Go.Proofs.Ytdiogegolnoeoaa.Den
open Go
set_option maxRecDepth 100000
set_option linter.unusedVariables false
/-! ### slices.Contains[[]int,int] -/
def slices_Contains_r (a0 : List Int) (a1 : Int) : Option (Bool × Unit) :=
  (slices_Index (a0, a1, ())).bind fun y1 =>
  some (decide (y1.1 ≥ 0), ())
def slices_Contains (x : (List Int) × Int × Unit) : Option (Bool × Unit) := slices_Contains_r x.1 x.2.1
noncomputable def slices_Contains_sm : Sum := ⟨(.cons (.sl cI) (.cons cI .nil)), (.cons (.d .bool) .nil), slices_Contains⟩
noncomputable def slices_Contains_S : List (Nat × Sum) := [(51, slices_Index_sm)]
noncomputable def slices_Contains_fl : List (Nat × Func) := []
noncomputable def slices_Contains_es : List AE := []
theorem slices_Contains_den : (fun x => denFun TEv (look1 slices_Contains_S) (look1 slices_Contains_fl) (annOf slices_Contains_es) 8 40 Go.Proofs.Try.f40 slices_Contains_sm.a slices_Contains_sm.r x) = slices_Contains_sm.F := by kernel_rfl
theorem slices_Contains_sem : SemOf Go.Proofs.Try.prog 40 slices_Contains_sm :=
  semMk teOk (sl := slices_Contains_S) (all_cons slices_Index_sem all_nil) (fl := slices_Contains_fl) (all_nil) (es := slices_Contains_es) Go.Proofs.Try.func40 (by kernel_rfl) rfl (rng_none (by kernel_rfl) (by kernel_rfl)) (all_nil) rfl slices_Contains_den

/-! ### flotsam/model.Kept -/
def model_Kept_s0r (v7 : Int) (v8 : Int) (c0 : Model) (c16 : List Int) (c32_0 : Int) (c32_1 : Unit) (r80 : List Thing) : Option (SRes (.cons cI (.cons cI (.cons cModel (.cons (.sl cI) (.cons cI (.cons .nil (.cons (.sl cThing) .nil))))))) (.cons cModel (.cons (.sl cI) (.cons cI (.cons .nil (.cons (.sl cThing) .nil))))) (.cons cI (.cons cModel (.cons (.sl cI) (.cons cI (.cons .nil (.cons (.sl cThing) .nil))))))) :=
  bif decide (v8 < v7) then
    bif decide (0 ≤ v8) then
      bif decide (v8 < (r80.length : Int)) then
        (slices_Contains (c16, (r80.getD v8.toNat (0, [], ())).1, ())).bind fun y2 =>
        bif !y2.1 then
          some (.fin (.ret (v8, c0, c16, c32_0, c32_1, r80, ())))
        else
        some (.next (v7, wi64 (v8 + 1), c0, c16, c32_0, c32_1, r80, ()))
      else none
    else none
  else
  some (.fin (.out (c0, c16, c32_0, c32_1, r80, ())))
def model_Kept_s0 (x : Int × Int × Model × (List Int) × Int × Unit × (List Thing) × Unit) : Option (SRes (.cons cI (.cons cI (.cons cModel (.cons (.sl cI) (.cons cI (.cons .nil (.cons (.sl cThing) .nil))))))) (.cons cModel (.cons (.sl cI) (.cons cI (.cons .nil (.cons (.sl cThing) .nil))))) (.cons cI (.cons cModel (.cons (.sl cI) (.cons cI (.cons .nil (.cons (.sl cThing) .nil))))))) := model_Kept_s0r x.1 x.2.1 x.2.2.1 x.2.2.2.1 x.2.2.2.2.1 x.2.2.2.2.2.1 x.2.2.2.2.2.2.1
def model_Kept_l0 (x : Int × Int × Model × (List Int) × Int × Unit × (List Thing) × Unit) : Option (LRes (.cons cModel (.cons (.sl cI) (.cons cI (.cons .nil (.cons (.sl cThing) .nil))))) (.cons cI (.cons cModel (.cons (.sl cI) (.cons cI (.cons .nil (.cons (.sl cThing) .nil))))))) := iterL (h := (.cons cI (.cons cI (.cons cModel (.cons (.sl cI) (.cons cI (.cons .nil (.cons (.sl cThing) .nil)))))))) (o := (.cons cModel (.cons (.sl cI) (.cons cI (.cons .nil (.cons (.sl cThing) .nil)))))) (r := (.cons cI (.cons cModel (.cons (.sl cI) (.cons cI (.cons .nil (.cons (.sl cThing) .nil))))))) model_Kept_s0 9223372036854775808 x
def model_Kept_s1r (v5 : Int) (v6 : Int) (c0 : Model) (c16 : List Int) (c32_0 : Int) (c32_1 : Unit) (r80 : List Thing) : Option (SRes (.cons cI (.cons cI (.cons cModel (.cons (.sl cI) (.cons cI (.cons .nil (.cons (.sl cThing) .nil))))))) (.cons cI (.cons cModel (.cons cI (.cons .nil (.cons (.sl cThing) .nil))))) .nil) :=
  bif decide (v6 < (r80.length : Int)) then
    bif decide (0 ≤ v6) then
      bif decide (v6 < (r80.length : Int)) then
        (slices_Contains (c16, (r80.getD v6.toNat (0, [], ())).1, ())).bind fun y4 =>
        bif !(!y4.1) then
          bif decide (0 ≤ v5) then
            bif decide (v5 < (r80.length : Int)) then
              some (.next (wi64 (v5 + 1), wi64 (v6 + 1), c0, c16, c32_0, c32_1, r80.set v5.toNat (r80.getD v6.toNat (0, [], ())), ()))
            else none
          else none
        else
        some (.next (v5, wi64 (v6 + 1), c0, c16, c32_0, c32_1, r80, ()))
      else none
    else none
  else
  some (.fin (.out (v5, c0, c32_0, c32_1, r80, ())))
def model_Kept_s1 (x : Int × Int × Model × (List Int) × Int × Unit × (List Thing) × Unit) : Option (SRes (.cons cI (.cons cI (.cons cModel (.cons (.sl cI) (.cons cI (.cons .nil (.cons (.sl cThing) .nil))))))) (.cons cI (.cons cModel (.cons cI (.cons .nil (.cons (.sl cThing) .nil))))) .nil) := model_Kept_s1r x.1 x.2.1 x.2.2.1 x.2.2.2.1 x.2.2.2.2.1 x.2.2.2.2.2.1 x.2.2.2.2.2.2.1
def model_Kept_l1 (x : Int × Int × Model × (List Int) × Int × Unit × (List Thing) × Unit) : Option (LRes (.cons cI (.cons cModel (.cons cI (.cons .nil (.cons (.sl cThing) .nil))))) .nil) := iterL (h := (.cons cI (.cons cI (.cons cModel (.cons (.sl cI) (.cons cI (.cons .nil (.cons (.sl cThing) .nil)))))))) (o := (.cons cI (.cons cModel (.cons cI (.cons .nil (.cons (.sl cThing) .nil)))))) (r := .nil) model_Kept_s1 9223372036854775808 x
def model_Kept_r (a0 : Model) (a1 : List Int) : Option (Model × Unit) :=
  (slices_Clone_api_Thing (a0.2.1, ())).bind fun y1 =>
  (model_Kept_l0 ((y1.1.length : Int), 0, a0, a1, 0, (), y1.1, ())).bind fun s3 => match s3 with
  | .out s3 =>
    some ((s3.1.1, s3.2.2.2.2.1, s3.1.2.2), ())
  | .ret s3 =>
    bif s3.1 == (-1) then
      some ((s3.2.1.1, s3.2.2.2.2.2.1, s3.2.1.2.2), ())
    else
    (model_Kept_l1 (s3.1, wi64 (s3.1 + 1), s3.2.1, s3.2.2.1, s3.2.2.2.1, s3.2.2.2.2.1, s3.2.2.2.2.2.1, ())).bind fun s5 => match s5 with
    | .out s5 =>
      bif decide (0 ≤ s5.1) then
        bif decide (s5.1 ≤ (s5.2.2.2.2.1.length : Int)) then
          bif decide ((s5.2.2.2.2.1.length : Int) ≤ (s5.2.2.2.2.1.length : Int)) then
            bif decide (0 ≤ s5.1) then
              bif decide (s5.1 ≤ ((segSet s5.2.2.2.2.1 s5.1.toNat (List.replicate ((s5.2.2.2.2.1.length : Int).toNat - s5.1.toNat) (0, [], ()))).length : Int)) then
                some ((s5.2.1.1, ((segSet s5.2.2.2.2.1 s5.1.toNat (List.replicate ((s5.2.2.2.2.1.length : Int).toNat - s5.1.toNat) (0, [], ()))).drop 0).take (s5.1.toNat - 0), s5.2.1.2.2), ())
              else none
            else none
          else none
        else none
      else none
    | .ret s5 =>
      none
def model_Kept (x : Model × (List Int) × Unit) : Option (Model × Unit) := model_Kept_r x.1 x.2.1
noncomputable def model_Kept_sm : Sum := ⟨(.cons cModel (.cons (.sl cI) .nil)), (.cons (.d cModel) .nil), model_Kept⟩
noncomputable def model_Kept_L0 : LoopSum := { hc := ⟨[], [0, 1, 7, 8], [], [], [0, 16, 32], [80], 304⟩, h := ⟨[(0, (.row 80)), (1, (.fn 39 .nil (.cons (.pvar 16 []) .nil))), (7, (.d cI)), (8, (.d cI))], [(0, (.d cModel)), (16, (.d (.sl cI))), (32, (.cons (.d cI) (.cons .nilsl (.cons .nilsl (.d .nil)))))], [(80, cThing, true)], 304⟩, xid := 0, oc := ⟨[], [], [], [], [0, 16, 32], [80], 304⟩, o := ⟨[], [(0, (.d cModel)), (16, (.d (.sl cI))), (32, (.cons (.d cI) (.cons .nilsl (.cons .nilsl (.d .nil)))))], [(80, cThing, true)], 304⟩, rc := ⟨[], [4], [], [], [0, 16, 32], [80], 304⟩, r := ⟨[(4, (.d cI))], [(0, (.d cModel)), (16, (.d (.sl cI))), (32, (.cons (.d cI) (.cons .nilsl (.cons .nilsl (.d .nil)))))], [(80, cThing, true)], 304⟩, F := model_Kept_l0 }
noncomputable def model_Kept_L1 : LoopSum := { hc := ⟨[], [0, 1, 5, 6], [], [], [0, 16, 32], [80], 384⟩, h := ⟨[(0, (.row 80)), (1, (.fn 39 .nil (.cons (.pvar 16 []) .nil))), (5, (.d cI)), (6, (.d cI))], [(0, (.d cModel)), (16, (.d (.sl cI))), (32, (.cons (.d cI) (.cons .nilsl (.cons .nilsl (.d .nil)))))], [(80, cThing, true)], 384⟩, xid := 0, oc := ⟨[], [0, 5], [], [], [0, 32], [80], 384⟩, o := ⟨[(0, (.row 80)), (5, (.d cI))], [(0, (.d cModel)), (32, (.cons (.d cI) (.cons .nilsl (.cons .nilsl (.d .nil)))))], [(80, cThing, true)], 384⟩, rc := ⟨[], [], [], [], [384], [], 384⟩, r := ⟨[], [], [], 384⟩, F := model_Kept_l1 }
noncomputable def model_Kept_S : List (Nat × Sum) := [(32, slices_Clone_api_Thing_sm), (40, slices_Contains_sm)]
noncomputable def model_Kept_fl : List (Nat × Func) := [(38, Go.Proofs.Try.f38), (39, Go.Proofs.Try.f39), (50, Go.Proofs.Try.f50)]
noncomputable def model_Kept_es : List AE := [⟨6, 50, 240, 0, model_Kept_L0⟩, ⟨7, 38, 160, 0, model_Kept_L1⟩]
theorem model_Kept_den0 : (fun x => denStep TEv (look1 model_Kept_S) (look1 model_Kept_fl) (annOf model_Kept_es) 6 50 Go.Proofs.Try.f50.ntmps 240 (cat (bodyOf Go.Proofs.Try.f50) [true, false, true, false, false]) model_Kept_L0 x) = model_Kept_s0 := by kernel_rfl
theorem model_Kept_den1 : (fun x => denStep TEv (look1 model_Kept_S) (look1 model_Kept_fl) (annOf model_Kept_es) 7 38 Go.Proofs.Try.f38.ntmps 160 (cat (bodyOf Go.Proofs.Try.f38) [true, true, true, false, true, false, false]) model_Kept_L1 x) = model_Kept_s1 := by kernel_rfl
theorem model_Kept_den : (fun x => denFun TEv (look1 model_Kept_S) (look1 model_Kept_fl) (annOf model_Kept_es) 8 26 Go.Proofs.Try.f26 model_Kept_sm.a model_Kept_sm.r x) = model_Kept_sm.F := by kernel_rfl
theorem model_Kept_ok0 : AEok Go.Proofs.Try.prog TEv (look1 model_Kept_S) (look1 model_Kept_fl) (annOf model_Kept_es) ⟨6, 50, 240, 0, model_Kept_L0⟩ := aeok_of 9223372036854775808 Go.Proofs.Try.func50 (by kernel_rfl) model_Kept_den0 (by kernel_rfl)
theorem model_Kept_ok1 : AEok Go.Proofs.Try.prog TEv (look1 model_Kept_S) (look1 model_Kept_fl) (annOf model_Kept_es) ⟨7, 38, 160, 0, model_Kept_L1⟩ := aeok_of 9223372036854775808 Go.Proofs.Try.func38 (by kernel_rfl) model_Kept_den1 (by kernel_rfl)
theorem model_Kept_sem : SemOf Go.Proofs.Try.prog 26 model_Kept_sm :=
  semMk teOk (sl := model_Kept_S) (all_cons slices_Clone_api_Thing_sem (all_cons slices_Contains_sem all_nil)) (fl := model_Kept_fl) (all_cons ⟨⟨Go.Proofs.Try.func38, by kernel_rfl⟩, rng_none (by kernel_rfl) (by kernel_rfl)⟩ (all_cons ⟨⟨Go.Proofs.Try.func39, by kernel_rfl⟩, rng_none (by kernel_rfl) (by kernel_rfl)⟩ (all_cons ⟨⟨Go.Proofs.Try.func50, by kernel_rfl⟩, rng_none (by kernel_rfl) (by kernel_rfl)⟩ (all_nil)))) (es := model_Kept_es) Go.Proofs.Try.func26 (by kernel_rfl) rfl (rng_none (by kernel_rfl) (by kernel_rfl)) (all_cons model_Kept_ok0 (all_cons model_Kept_ok1 (all_nil))) rfl model_Kept_den

/-! ### flotsam/model.New -/
def model_New_r (a0 : Int) : Option (Model × Unit) :=
  bif a0 == a0 then
    bif decide (0 ≤ a0) then
      bif decide (a0.toNat * 24 ≤ 140737488355328) then
        some ((0, [], List.replicate a0.toNat ([] : List Val), ()), ())
      else none
    else none
  else none
def model_New (x : Int × Unit) : Option (Model × Unit) := model_New_r x.1
noncomputable def model_New_sm : Sum := ⟨(.cons cI .nil), (.cons (.cons (.d cI) (.cons (.own cThing) (.cons (.own (.sl cVal)) .nil))) .nil), model_New⟩
noncomputable def model_New_S : List (Nat × Sum) := []
noncomputable def model_New_fl : List (Nat × Func) := []
noncomputable def model_New_es : List AE := []
theorem model_New_den : (fun x => denFun TEv (look1 model_New_S) (look1 model_New_fl) (annOf model_New_es) 8 28 Go.Proofs.Try.f28 model_New_sm.a model_New_sm.r x) = model_New_sm.F := by kernel_rfl
theorem model_New_sem : SemOf Go.Proofs.Try.prog 28 model_New_sm :=
  semMk teOk (sl := model_New_S) (all_nil) (fl := model_New_fl) (all_nil) (es := model_New_es) Go.Proofs.Try.func28 (by kernel_rfl) rfl (rng_none (by kernel_rfl) (by kernel_rfl)) (all_nil) rfl model_New_den

/-! ### flotsam/flotsamlaw24.awake -/
def flotsamlaw24_awake_r  : Option (Bool × Unit) :=
  (model_New (1, ())).bind fun y1 =>
  (model_Make ((y1.1.1, y1.1.2.1, y1.1.2.2.1, ()), 2, ())).bind fun y2 =>
  (model_Make ((y2.1.1, y2.1.2.1, y2.1.2.2), 0, ())).bind fun y3 =>
  (model_Set ((y3.1.1, y3.1.2.1, y3.1.2.2), 0, 1, (2, 1, ()), ())).bind fun y4 =>
  (model_Set ((y3.1.1, y3.1.2.1, y3.1.2.2), 1, 0, (0, 0, ()), ())).bind fun y5 =>
  (model_Get (y4.1, 0, ())).bind fun y6 =>
  (model_Check ((y4.1.1, y4.1.2.1, [[(2, 0, ())]], y4.1.2.2.2), 0, 1, (1, 0, 1, 0, ()), ())).bind fun y7 =>
  (model_Check ((y4.1.1, y4.1.2.1, [[(2, 0, ())]], y4.1.2.2.2), 0, 2, (1, 0, 2, 0, ()), ())).bind fun y8 =>
  bif y2.2.1 == 0 then
    bif y3.2.1 == 1 then
      bif y4.2.1 then
        bif !y5.2.1 then
          bif y6.2.1 then
            bif (y6.1.2.1.length : Int) == 2 then
              bif decide (1 < (y6.1.2.1.length : Int)) then
                bif (y6.1.2.1.getD 1 (0, 0, ())).2.1 == 1 then
                  bif y7.1 == 5 then
                    bif y8.1 == 4 then
                      (model_Reach ((y4.1.1, y4.1.2.1, [[(2, 0, ())]], y4.1.2.2.2), [(2, 0, ())], ())).bind fun y9 =>
                      (flotsamref08_Ints (y9.1, [0, 1], ())).bind fun y10 =>
                      bif y10.1 then
                        (model_Kept ((y4.1.1, y4.1.2.1, [[(2, 0, ())]], y4.1.2.2.2), [1], ())).bind fun y11 =>
                        bif (y11.1.2.1.length : Int) == 1 then
                          (model_Right ((y4.1.1, y4.1.2.1, [[(2, 0, ())]], y4.1.2.2.2), ())).bind fun y12 =>
                          bif y12.1 then
                            (model_Right ((0, [(1, [], ())], [], ()), ())).bind fun y13 =>
                            some (!y13.1, ())
                          else
                          some (false, ())
                        else
                        some (false, ())
                      else
                      some (false, ())
                    else
                    some (false, ())
                  else
                  some (false, ())
                else
                some (false, ())
              else none
            else
            some (false, ())
          else
          some (false, ())
        else
        some (false, ())
      else
      some (false, ())
    else
    some (false, ())
  else
  some (false, ())
def flotsamlaw24_awake (x : Unit) : Option (Bool × Unit) := flotsamlaw24_awake_r 
noncomputable def flotsamlaw24_awake_sm : Sum := ⟨.nil, (.cons (.d .bool) .nil), flotsamlaw24_awake⟩
noncomputable def flotsamlaw24_awake_S : List (Nat × Sum) := [(10, model_Right_sm), (12, model_Get_sm), (14, model_Make_sm), (16, model_Set_sm), (21, model_Check_sm), (23, flotsamref08_Ints_sm), (24, model_Reach_sm), (26, model_Kept_sm), (28, model_New_sm)]
noncomputable def flotsamlaw24_awake_fl : List (Nat × Func) := []
noncomputable def flotsamlaw24_awake_es : List AE := []
theorem flotsamlaw24_awake_den : (fun x => denFun TEv (look1 flotsamlaw24_awake_S) (look1 flotsamlaw24_awake_fl) (annOf flotsamlaw24_awake_es) 8 8 Go.Proofs.Try.f8 flotsamlaw24_awake_sm.a flotsamlaw24_awake_sm.r x) = flotsamlaw24_awake_sm.F := by kernel_rfl
theorem flotsamlaw24_awake_sem : SemOf Go.Proofs.Try.prog 8 flotsamlaw24_awake_sm :=
  semMk teOk (sl := flotsamlaw24_awake_S) (all_cons model_Right_sem (all_cons model_Get_sem (all_cons model_Make_sem (all_cons model_Set_sem (all_cons model_Check_sem (all_cons flotsamref08_Ints_sem (all_cons model_Reach_sem (all_cons model_Kept_sem (all_cons model_New_sem all_nil))))))))) (fl := flotsamlaw24_awake_fl) (all_nil) (es := flotsamlaw24_awake_es) Go.Proofs.Try.func8 (by kernel_rfl) rfl (rng_none (by kernel_rfl) (by kernel_rfl)) (all_nil) rfl flotsamlaw24_awake_den

/-! ### flotsam/flotsamref24.Few -/
def flotsamref24_Few_s0r (v3 : Int) (c0 : Model) : Option (SRes (.cons cI (.cons cModel .nil)) (.cons cModel .nil) (.cons .bool .nil)) :=
  bif decide (v3 < (c0.2.1.length : Int)) then
    bif decide (v3 < 100) then
      bif decide (0 ≤ v3) then
        bif decide (v3 < (c0.2.1.length : Int)) then
          bif decide (((c0.2.1.getD v3.toNat (0, [], ())).2.1.length : Int) > 20) then
            some (.fin (.ret (false, ())))
          else
          some (.next (wi64 (v3 + 1), c0, ()))
        else none
      else none
    else
    some (.fin (.out (c0, ())))
  else
  some (.fin (.out (c0, ())))
def flotsamref24_Few_s0 (x : Int × Model × Unit) : Option (SRes (.cons cI (.cons cModel .nil)) (.cons cModel .nil) (.cons .bool .nil)) := flotsamref24_Few_s0r x.1 x.2.1
def flotsamref24_Few_l0 (x : Int × Model × Unit) : Option (LRes (.cons cModel .nil) (.cons .bool .nil)) := iterL (h := (.cons cI (.cons cModel .nil))) (o := (.cons cModel .nil)) (r := (.cons .bool .nil)) flotsamref24_Few_s0 9223372036854775808 x
def flotsamref24_Few_s1r (v4 : Int) (c0 : Model) : Option (SRes (.cons cI (.cons cModel .nil)) (.cons cModel .nil) (.cons .bool .nil)) :=
  bif decide (v4 < (c0.2.2.1.length : Int)) then
    bif decide (v4 < 20) then
      bif decide (0 ≤ v4) then
        bif decide (v4 < (c0.2.2.1.length : Int)) then
          bif decide (((c0.2.2.1.getD v4.toNat []).length : Int) > 20) then
            some (.fin (.ret (false, ())))
          else
          some (.next (wi64 (v4 + 1), c0, ()))
        else none
      else none
    else
    some (.fin (.out (c0, ())))
  else
  some (.fin (.out (c0, ())))
def flotsamref24_Few_s1 (x : Int × Model × Unit) : Option (SRes (.cons cI (.cons cModel .nil)) (.cons cModel .nil) (.cons .bool .nil)) := flotsamref24_Few_s1r x.1 x.2.1
def flotsamref24_Few_l1 (x : Int × Model × Unit) : Option (LRes (.cons cModel .nil) (.cons .bool .nil)) := iterL (h := (.cons cI (.cons cModel .nil))) (o := (.cons cModel .nil)) (r := (.cons .bool .nil)) flotsamref24_Few_s1 9223372036854775808 x
def flotsamref24_Few_r (a0 : Model) : Option (Bool × Unit) :=
  (flotsamref24_Few_l0 (0, a0, ())).bind fun s1 => match s1 with
  | .out s1 =>
    (flotsamref24_Few_l1 (0, s1.1, ())).bind fun s2 => match s2 with
    | .out s2 =>
      bif decide ((s2.1.2.1.length : Int) ≤ 40) then
        bif decide ((s2.1.2.2.1.length : Int) ≤ 10) then
          some (decide (s2.1.1 < 1152921504606846976), ())
        else
        some (false, ())
      else
      some (false, ())
    | .ret s2 =>
      some (s2.1, ())
  | .ret s1 =>
    some (s1.1, ())
def flotsamref24_Few (x : Model × Unit) : Option (Bool × Unit) := flotsamref24_Few_r x.1
noncomputable def flotsamref24_Few_sm : Sum := ⟨(.cons cModel .nil), (.cons (.d .bool) .nil), flotsamref24_Few⟩
noncomputable def flotsamref24_Few_L0 : LoopSum := { hc := ⟨[], [1, 3], [], [], [0], [], 48⟩, h := ⟨[(1, (.pvar 0 [])), (3, (.d cI))], [(0, (.d cModel))], [], 48⟩, xid := 0, oc := ⟨[], [1], [], [], [0], [], 48⟩, o := ⟨[(1, (.pvar 0 []))], [(0, (.d cModel))], [], 48⟩, rc := ⟨[], [2], [], [], [], [], 48⟩, r := ⟨[(2, (.d .bool))], [], [], 48⟩, F := flotsamref24_Few_l0 }
noncomputable def flotsamref24_Few_L1 : LoopSum := { hc := ⟨[], [1, 4], [], [], [0], [], 64⟩, h := ⟨[(1, (.pvar 0 [])), (4, (.d cI))], [(0, (.d cModel))], [], 64⟩, xid := 2, oc := ⟨[], [1], [], [], [0], [], 64⟩, o := ⟨[(1, (.pvar 0 []))], [(0, (.d cModel))], [], 64⟩, rc := ⟨[], [2], [], [], [], [], 64⟩, r := ⟨[(2, (.d .bool))], [], [], 64⟩, F := flotsamref24_Few_l1 }
noncomputable def flotsamref24_Few_S : List (Nat × Sum) := []
noncomputable def flotsamref24_Few_fl : List (Nat × Func) := []
noncomputable def flotsamref24_Few_es : List AE := [⟨8, 9, 0, 0, flotsamref24_Few_L0⟩, ⟨8, 9, 0, 2, flotsamref24_Few_L1⟩]
theorem flotsamref24_Few_den0 : (fun x => denStep TEv (look1 flotsamref24_Few_S) (look1 flotsamref24_Few_fl) (annOf flotsamref24_Few_es) 8 9 Go.Proofs.Try.f9.ntmps 0 (cat (bodyOf Go.Proofs.Try.f9) [true, false, true, false, false]) flotsamref24_Few_L0 x) = flotsamref24_Few_s0 := by kernel_rfl
theorem flotsamref24_Few_den1 : (fun x => denStep TEv (look1 flotsamref24_Few_S) (look1 flotsamref24_Few_fl) (annOf flotsamref24_Few_es) 8 9 Go.Proofs.Try.f9.ntmps 0 (cat (bodyOf Go.Proofs.Try.f9) [true, true, false, true, false, false]) flotsamref24_Few_L1 x) = flotsamref24_Few_s1 := by kernel_rfl
theorem flotsamref24_Few_den : (fun x => denFun TEv (look1 flotsamref24_Few_S) (look1 flotsamref24_Few_fl) (annOf flotsamref24_Few_es) 8 9 Go.Proofs.Try.f9 flotsamref24_Few_sm.a flotsamref24_Few_sm.r x) = flotsamref24_Few_sm.F := by kernel_rfl
theorem flotsamref24_Few_ok0 : AEok Go.Proofs.Try.prog TEv (look1 flotsamref24_Few_S) (look1 flotsamref24_Few_fl) (annOf flotsamref24_Few_es) ⟨8, 9, 0, 0, flotsamref24_Few_L0⟩ := aeok_of 9223372036854775808 Go.Proofs.Try.func9 (by kernel_rfl) flotsamref24_Few_den0 (by kernel_rfl)
theorem flotsamref24_Few_ok1 : AEok Go.Proofs.Try.prog TEv (look1 flotsamref24_Few_S) (look1 flotsamref24_Few_fl) (annOf flotsamref24_Few_es) ⟨8, 9, 0, 2, flotsamref24_Few_L1⟩ := aeok_of 9223372036854775808 Go.Proofs.Try.func9 (by kernel_rfl) flotsamref24_Few_den1 (by kernel_rfl)
theorem flotsamref24_Few_sem : SemOf Go.Proofs.Try.prog 9 flotsamref24_Few_sm :=
  semMk teOk (sl := flotsamref24_Few_S) (all_nil) (fl := flotsamref24_Few_fl) (all_nil) (es := flotsamref24_Few_es) Go.Proofs.Try.func9 (by kernel_rfl) rfl (rng_none (by kernel_rfl) (by kernel_rfl)) (all_cons flotsamref24_Few_ok0 (all_cons flotsamref24_Few_ok1 (all_nil))) rfl flotsamref24_Few_den

/-! ### flotsam/flotsamref24.Right -/
def flotsamref24_Right_s0r (v3 : Int) (c0 : Model) : Option (SRes (.cons cI (.cons cModel .nil)) .nil (.cons .bool .nil)) :=
  bif decide (v3 < (c0.2.1.length : Int)) then
    bif decide (0 ≤ v3) then
      bif decide (v3 < (c0.2.1.length : Int)) then
        bif decide ((c0.2.1.getD v3.toNat (0, [], ())).1 < 0) then
          some (.fin (.ret (false, ())))
        else
        bif decide (0 ≤ v3) then
          bif decide (v3 < (c0.2.1.length : Int)) then
            bif decide ((c0.2.1.getD v3.toNat (0, [], ())).1 ≥ c0.1) then
              some (.fin (.ret (false, ())))
            else
            bif decide (0 ≤ v3) then
              bif decide (v3 < (c0.2.1.length : Int)) then
                bif decide (((c0.2.1.getD v3.toNat (0, [], ())).2.1.length : Int) > 15) then
                  some (.fin (.ret (false, ())))
                else
                bif decide (v3 > 0) then
                  bif decide (0 ≤ (wi64 (v3 - 1))) then
                    bif decide ((wi64 (v3 - 1)) < (c0.2.1.length : Int)) then
                      bif decide (0 ≤ v3) then
                        bif decide (v3 < (c0.2.1.length : Int)) then
                          bif decide ((c0.2.1.getD (wi64 (v3 - 1)).toNat (0, [], ())).1 ≥ (c0.2.1.getD v3.toNat (0, [], ())).1) then
                            some (.fin (.ret (false, ())))
                          else
                          some (.next (wi64 (v3 + 1), c0, ()))
                        else none
                      else none
                    else none
                  else none
                else
                some (.next (wi64 (v3 + 1), c0, ()))
              else none
            else none
          else none
        else none
      else none
    else none
  else
  some (.fin (.out ()))
def flotsamref24_Right_s0 (x : Int × Model × Unit) : Option (SRes (.cons cI (.cons cModel .nil)) .nil (.cons .bool .nil)) := flotsamref24_Right_s0r x.1 x.2.1
def flotsamref24_Right_l0 (x : Int × Model × Unit) : Option (LRes .nil (.cons .bool .nil)) := iterL (h := (.cons cI (.cons cModel .nil))) (o := .nil) (r := (.cons .bool .nil)) flotsamref24_Right_s0 9223372036854775808 x
def flotsamref24_Right_r (a0 : Model) : Option (Bool × Unit) :=
  (flotsamref24_Right_l0 (0, a0, ())).bind fun s1 => match s1 with
  | .out s1 =>
    some (true, ())
  | .ret s1 =>
    some (s1.1, ())
def flotsamref24_Right (x : Model × Unit) : Option (Bool × Unit) := flotsamref24_Right_r x.1
noncomputable def flotsamref24_Right_sm : Sum := ⟨(.cons cModel .nil), (.cons (.d .bool) .nil), flotsamref24_Right⟩
noncomputable def flotsamref24_Right_L0 : LoopSum := { hc := ⟨[], [1, 3], [], [], [0], [], 48⟩, h := ⟨[(1, (.pvar 0 [])), (3, (.d cI))], [(0, (.d cModel))], [], 48⟩, xid := 0, oc := ⟨[], [], [], [], [], [], 48⟩, o := ⟨[], [], [], 48⟩, rc := ⟨[], [2], [], [], [], [], 48⟩, r := ⟨[(2, (.d .bool))], [], [], 48⟩, F := flotsamref24_Right_l0 }
noncomputable def flotsamref24_Right_S : List (Nat × Sum) := []
noncomputable def flotsamref24_Right_fl : List (Nat × Func) := []
noncomputable def flotsamref24_Right_es : List AE := [⟨8, 11, 0, 0, flotsamref24_Right_L0⟩]
theorem flotsamref24_Right_den0 : (fun x => denStep TEv (look1 flotsamref24_Right_S) (look1 flotsamref24_Right_fl) (annOf flotsamref24_Right_es) 8 11 Go.Proofs.Try.f11.ntmps 0 (cat (bodyOf Go.Proofs.Try.f11) [true, false, true, false, false]) flotsamref24_Right_L0 x) = flotsamref24_Right_s0 := by kernel_rfl
theorem flotsamref24_Right_den : (fun x => denFun TEv (look1 flotsamref24_Right_S) (look1 flotsamref24_Right_fl) (annOf flotsamref24_Right_es) 8 11 Go.Proofs.Try.f11 flotsamref24_Right_sm.a flotsamref24_Right_sm.r x) = flotsamref24_Right_sm.F := by kernel_rfl
theorem flotsamref24_Right_ok0 : AEok Go.Proofs.Try.prog TEv (look1 flotsamref24_Right_S) (look1 flotsamref24_Right_fl) (annOf flotsamref24_Right_es) ⟨8, 11, 0, 0, flotsamref24_Right_L0⟩ := aeok_of 9223372036854775808 Go.Proofs.Try.func11 (by kernel_rfl) flotsamref24_Right_den0 (by kernel_rfl)
theorem flotsamref24_Right_sem : SemOf Go.Proofs.Try.prog 11 flotsamref24_Right_sm :=
  semMk teOk (sl := flotsamref24_Right_S) (all_nil) (fl := flotsamref24_Right_fl) (all_nil) (es := flotsamref24_Right_es) Go.Proofs.Try.func11 (by kernel_rfl) rfl (rng_none (by kernel_rfl) (by kernel_rfl)) (all_cons flotsamref24_Right_ok0 (all_nil)) rfl flotsamref24_Right_den

/-! ### flotsam/flotsamref24.Get -/
def flotsamref24_Get_s0r (v1 : Int) (v6 : Int) (c0 : Model) (c16_0 : Int) (c16_1 : Unit) : Option (SRes (.cons cI (.cons cI (.cons cModel (.cons cI (.cons .nil .nil))))) (.cons cI (.cons .nil .nil)) (.cons .bool (.cons cThing .nil))) :=
  bif decide (v6 < (c0.2.1.length : Int)) then
    bif decide (0 ≤ v6) then
      bif decide (v6 < (c0.2.1.length : Int)) then
        bif (c0.2.1.getD v6.toNat (0, [], ())).1 == v1 then
          bif decide (0 ≤ v6) then
            bif decide (v6 < (c0.2.1.length : Int)) then
              some (.fin (.ret (true, c0.2.1.getD v6.toNat (0, [], ()), ())))
            else none
          else none
        else
        some (.next (v1, wi64 (v6 + 1), c0, c16_0, c16_1, ()))
      else none
    else none
  else
  some (.fin (.out (c16_0, c16_1, ())))
def flotsamref24_Get_s0 (x : Int × Int × Model × Int × Unit × Unit) : Option (SRes (.cons cI (.cons cI (.cons cModel (.cons cI (.cons .nil .nil))))) (.cons cI (.cons .nil .nil)) (.cons .bool (.cons cThing .nil))) := flotsamref24_Get_s0r x.1 x.2.1 x.2.2.1 x.2.2.2.1 x.2.2.2.2.1
def flotsamref24_Get_l0 (x : Int × Int × Model × Int × Unit × Unit) : Option (LRes (.cons cI (.cons .nil .nil)) (.cons .bool (.cons cThing .nil))) := iterL (h := (.cons cI (.cons cI (.cons cModel (.cons cI (.cons .nil .nil)))))) (o := (.cons cI (.cons .nil .nil))) (r := (.cons .bool (.cons cThing .nil))) flotsamref24_Get_s0 9223372036854775808 x
def flotsamref24_Get_r (a0 : Model) (a1 : Int) : Option (Thing × Bool × Unit) :=
  (flotsamref24_Get_l0 (a1, 0, a0, 0, (), ())).bind fun s1 => match s1 with
  | .out s1 =>
    some ((0, [], ()), false, ())
  | .ret s1 =>
    some (s1.2.1, s1.1, ())
def flotsamref24_Get (x : Model × Int × Unit) : Option (Thing × Bool × Unit) := flotsamref24_Get_r x.1 x.2.1
noncomputable def flotsamref24_Get_sm : Sum := ⟨(.cons cModel (.cons cI .nil)), (.cons (.d cThing) (.cons (.d .bool) .nil)), flotsamref24_Get⟩
noncomputable def flotsamref24_Get_L0 : LoopSum := { hc := ⟨[], [1, 2, 4, 6], [], [], [0, 16], [], 64⟩, h := ⟨[(1, (.d cI)), (2, (.pvar 0 [])), (4, (.pvar 16 [])), (6, (.d cI))], [(0, (.d cModel)), (16, (.cons (.d cI) (.cons .nilsl (.d .nil))))], [], 64⟩, xid := 0, oc := ⟨[], [4], [], [], [16], [], 64⟩, o := ⟨[(4, (.pvar 16 []))], [(16, (.cons (.d cI) (.cons .nilsl (.d .nil))))], [], 64⟩, rc := ⟨[], [4, 5], [], [], [16], [], 64⟩, r := ⟨[(4, (.pvar 16 [])), (5, (.d .bool))], [(16, (.d cThing))], [], 64⟩, F := flotsamref24_Get_l0 }
noncomputable def flotsamref24_Get_S : List (Nat × Sum) := []
noncomputable def flotsamref24_Get_fl : List (Nat × Func) := []
noncomputable def flotsamref24_Get_es : List AE := [⟨8, 13, 0, 0, flotsamref24_Get_L0⟩]
theorem flotsamref24_Get_den0 : (fun x => denStep TEv (look1 flotsamref24_Get_S) (look1 flotsamref24_Get_fl) (annOf flotsamref24_Get_es) 8 13 Go.Proofs.Try.f13.ntmps 0 (cat (bodyOf Go.Proofs.Try.f13) [true, false, true, false, false]) flotsamref24_Get_L0 x) = flotsamref24_Get_s0 := by kernel_rfl
theorem flotsamref24_Get_den : (fun x => denFun TEv (look1 flotsamref24_Get_S) (look1 flotsamref24_Get_fl) (annOf flotsamref24_Get_es) 8 13 Go.Proofs.Try.f13 flotsamref24_Get_sm.a flotsamref24_Get_sm.r x) = flotsamref24_Get_sm.F := by kernel_rfl
theorem flotsamref24_Get_ok0 : AEok Go.Proofs.Try.prog TEv (look1 flotsamref24_Get_S) (look1 flotsamref24_Get_fl) (annOf flotsamref24_Get_es) ⟨8, 13, 0, 0, flotsamref24_Get_L0⟩ := aeok_of 9223372036854775808 Go.Proofs.Try.func13 (by kernel_rfl) flotsamref24_Get_den0 (by kernel_rfl)
theorem flotsamref24_Get_sem : SemOf Go.Proofs.Try.prog 13 flotsamref24_Get_sm :=
  semMk teOk (sl := flotsamref24_Get_S) (all_nil) (fl := flotsamref24_Get_fl) (all_nil) (es := flotsamref24_Get_es) Go.Proofs.Try.func13 (by kernel_rfl) rfl (rng_none (by kernel_rfl) (by kernel_rfl)) (all_cons flotsamref24_Get_ok0 (all_nil)) rfl flotsamref24_Get_den

/-! ### flotsam/flotsamref24.Make -/
def flotsamref24_Make_s0r (v1 : Int) (v7 : Int) (c0 : Model) (c16_0 : Int) (c16_1 : Unit) (c96_0 : Int) (c96_1 : Unit) (r144 : List Val) : Option (SRes (.cons cI (.cons cI (.cons cModel (.cons cI (.cons .nil (.cons cI (.cons .nil (.cons (.sl cVal) .nil)))))))) (.cons cModel (.cons cI (.cons .nil (.cons cI (.cons .nil (.cons (.sl cVal) .nil)))))) .nil) :=
  bif decide (v7 < v1) then
    bif decide ((r144.length + 1) * 16 ≤ 140737488355328) then
      some (.next (v1, wi64 (v7 + 1), c0, c16_0, c16_1, c96_0, c96_1, r144 ++ [(0, 0, ())], ()))
    else none
  else
  some (.fin (.out (c0, c16_0, c16_1, c96_0, c96_1, r144, ())))
def flotsamref24_Make_s0 (x : Int × Int × Model × Int × Unit × Int × Unit × (List Val) × Unit) : Option (SRes (.cons cI (.cons cI (.cons cModel (.cons cI (.cons .nil (.cons cI (.cons .nil (.cons (.sl cVal) .nil)))))))) (.cons cModel (.cons cI (.cons .nil (.cons cI (.cons .nil (.cons (.sl cVal) .nil)))))) .nil) := flotsamref24_Make_s0r x.1 x.2.1 x.2.2.1 x.2.2.2.1 x.2.2.2.2.1 x.2.2.2.2.2.1 x.2.2.2.2.2.2.1 x.2.2.2.2.2.2.2.1
def flotsamref24_Make_l0 (x : Int × Int × Model × Int × Unit × Int × Unit × (List Val) × Unit) : Option (LRes (.cons cModel (.cons cI (.cons .nil (.cons cI (.cons .nil (.cons (.sl cVal) .nil)))))) .nil) := iterL (h := (.cons cI (.cons cI (.cons cModel (.cons cI (.cons .nil (.cons cI (.cons .nil (.cons (.sl cVal) .nil))))))))) (o := (.cons cModel (.cons cI (.cons .nil (.cons cI (.cons .nil (.cons (.sl cVal) .nil))))))) (r := .nil) flotsamref24_Make_s0 9223372036854775808 x
def flotsamref24_Make_r (a0 : Model) (a1 : Int) : Option (Model × Int × Unit) :=
  (flotsamref24_Make_l0 (a1, 0, a0, 0, (), a0.1, (), [], ())).bind fun s1 => match s1 with
  | .out s1 =>
    bif decide ((0 + s1.1.2.1.length) * 32 ≤ 140737488355328) then
      bif decide ((s1.1.2.1.length + 1) * 32 ≤ 140737488355328) then
        some ((wi64 (s1.1.1 + 1), s1.1.2.1 ++ [(s1.2.2.2.1, s1.2.2.2.2.2.1, s1.2.2.2.2.1)], s1.1.2.2), s1.2.2.2.1, ())
      else none
    else none
  | .ret s1 =>
    none
def flotsamref24_Make (x : Model × Int × Unit) : Option (Model × Int × Unit) := flotsamref24_Make_r x.1 x.2.1
noncomputable def flotsamref24_Make_sm : Sum := ⟨(.cons cModel (.cons cI .nil)), (.cons (.cons (.d cI) (.cons (.own cThing) (.d (.cons (.sl (.sl cVal)) .nil)))) (.cons (.d cI) .nil)), flotsamref24_Make⟩
noncomputable def flotsamref24_Make_L0 : LoopSum := { hc := ⟨[], [1, 2, 4, 6, 7], [(.key 96 [.fld 1], cVal)], [], [0, 16, 96], [], 144⟩, h := ⟨[(1, (.d cI)), (2, (.pvar 0 [])), (4, (.pvar 16 [])), (6, (.pvar 96 [])), (7, (.d cI))], [(0, (.d cModel)), (16, (.cons (.d cI) (.cons .nilsl (.cons .nilsl (.d .nil))))), (96, (.cons (.d cI) (.cons (.row 144) (.d .nil))))], [(144, cVal, true)], 145⟩, xid := 0, oc := ⟨[], [2, 4, 6], [(.ptr 6 [.fld 1], cVal)], [], [0, 16, 96], [], 144⟩, o := ⟨[(2, (.pvar 0 [])), (4, (.pvar 16 [])), (6, (.pvar 96 []))], [(0, (.d cModel)), (16, (.cons (.d cI) (.cons .nilsl (.cons .nilsl (.d .nil))))), (96, (.cons (.d cI) (.cons (.row 144) (.d .nil))))], [(144, cVal, true)], 145⟩, rc := ⟨[], [], [], [], [144], [], 144⟩, r := ⟨[], [], [], 144⟩, F := flotsamref24_Make_l0 }
noncomputable def flotsamref24_Make_S : List (Nat × Sum) := []
noncomputable def flotsamref24_Make_fl : List (Nat × Func) := []
noncomputable def flotsamref24_Make_es : List AE := [⟨8, 15, 0, 0, flotsamref24_Make_L0⟩]
theorem flotsamref24_Make_den0 : (fun x => denStep TEv (look1 flotsamref24_Make_S) (look1 flotsamref24_Make_fl) (annOf flotsamref24_Make_es) 8 15 Go.Proofs.Try.f15.ntmps 0 (cat (bodyOf Go.Proofs.Try.f15) [true, true, false, true, false, false]) flotsamref24_Make_L0 x) = flotsamref24_Make_s0 := by kernel_rfl
theorem flotsamref24_Make_den : (fun x => denFun TEv (look1 flotsamref24_Make_S) (look1 flotsamref24_Make_fl) (annOf flotsamref24_Make_es) 8 15 Go.Proofs.Try.f15 flotsamref24_Make_sm.a flotsamref24_Make_sm.r x) = flotsamref24_Make_sm.F := by kernel_rfl
theorem flotsamref24_Make_ok0 : AEok Go.Proofs.Try.prog TEv (look1 flotsamref24_Make_S) (look1 flotsamref24_Make_fl) (annOf flotsamref24_Make_es) ⟨8, 15, 0, 0, flotsamref24_Make_L0⟩ := aeok_of 9223372036854775808 Go.Proofs.Try.func15 (by kernel_rfl) flotsamref24_Make_den0 (by kernel_rfl)
theorem flotsamref24_Make_sem : SemOf Go.Proofs.Try.prog 15 flotsamref24_Make_sm :=
  semMk teOk (sl := flotsamref24_Make_S) (all_nil) (fl := flotsamref24_Make_fl) (all_nil) (es := flotsamref24_Make_es) Go.Proofs.Try.func15 (by kernel_rfl) rfl (rng_none (by kernel_rfl) (by kernel_rfl)) (all_cons flotsamref24_Make_ok0 (all_nil)) rfl flotsamref24_Make_den

/-! ### flotsam/flotsamref24.Set -/
def flotsamref24_Set_s0r (v1 : Int) (v2 : Int) (v13 : Int) (c0 : Model) (c16 : Val) (c32_0 : Int) (c32_1 : Unit) (r448 : List Thing) : Option (SRes (.cons cI (.cons cI (.cons cI (.cons cModel (.cons cVal (.cons cI (.cons .nil (.cons (.sl cThing) .nil)))))))) (.cons cModel (.cons cI (.cons .nil (.cons (.sl cThing) .nil)))) .nil) :=
  bif decide (v13 < (c0.2.1.length : Int)) then
    bif decide (0 ≤ v13) then
      bif decide (v13 < (c0.2.1.length : Int)) then
        bif (c0.2.1.getD v13.toNat (0, [], ())).1 == v1 then
          bif decide ((0 + (c0.2.1.getD v13.toNat (0, [], ())).2.1.length) * 16 ≤ 140737488355328) then
            bif decide (0 ≤ v2) then
              bif decide (v2 < ((c0.2.1.getD v13.toNat (0, [], ())).2.1.length : Int)) then
                bif decide ((r448.length + 1) * 32 ≤ 140737488355328) then
                  some (.next (v1, v2, wi64 (v13 + 1), c0, c16, c32_0, c32_1, r448 ++ [((c0.2.1.getD v13.toNat (0, [], ())).1, (c0.2.1.getD v13.toNat (0, [], ())).2.1.set v2.toNat c16, (c0.2.1.getD v13.toNat (0, [], ())).2.2)], ()))
                else none
              else none
            else none
          else none
        else
        bif decide ((r448.length + 1) * 32 ≤ 140737488355328) then
          some (.next (v1, v2, wi64 (v13 + 1), c0, c16, c32_0, c32_1, r448 ++ [c0.2.1.getD v13.toNat (0, [], ())], ()))
        else none
      else none
    else none
  else
  some (.fin (.out (c0, c32_0, c32_1, r448, ())))
def flotsamref24_Set_s0 (x : Int × Int × Int × Model × Val × Int × Unit × (List Thing) × Unit) : Option (SRes (.cons cI (.cons cI (.cons cI (.cons cModel (.cons cVal (.cons cI (.cons .nil (.cons (.sl cThing) .nil)))))))) (.cons cModel (.cons cI (.cons .nil (.cons (.sl cThing) .nil)))) .nil) := flotsamref24_Set_s0r x.1 x.2.1 x.2.2.1 x.2.2.2.1 x.2.2.2.2.1 x.2.2.2.2.2.1 x.2.2.2.2.2.2.1 x.2.2.2.2.2.2.2.1
def flotsamref24_Set_l0 (x : Int × Int × Int × Model × Val × Int × Unit × (List Thing) × Unit) : Option (LRes (.cons cModel (.cons cI (.cons .nil (.cons (.sl cThing) .nil)))) .nil) := iterL (h := (.cons cI (.cons cI (.cons cI (.cons cModel (.cons cVal (.cons cI (.cons .nil (.cons (.sl cThing) .nil))))))))) (o := (.cons cModel (.cons cI (.cons .nil (.cons (.sl cThing) .nil))))) (r := .nil) flotsamref24_Set_s0 9223372036854775808 x
def flotsamref24_Set_r (a0 : Model) (a1 : Int) (a2 : Int) (a3 : Val) : Option (Model × Bool × Unit) :=
  (flotsamref24_Get (a0, a1, ())).bind fun y1 =>
  bif !y1.2.1 then
    some (a0, false, ())
  else
  bif decide (a2 < 0) then
    some (a0, false, ())
  else
  bif decide (a2 ≥ (y1.1.2.1.length : Int)) then
    some (a0, false, ())
  else
  (flotsamref24_Set_l0 (a1, a2, 0, a0, a3, 0, (), [], ())).bind fun s2 => match s2 with
  | .out s2 =>
    some ((s2.1.1, s2.2.2.2.1, s2.1.2.2), true, ())
  | .ret s2 =>
    none
def flotsamref24_Set (x : Model × Link) : Option (Model × Bool × Unit) := flotsamref24_Set_r x.1 x.2.1 x.2.2.1 x.2.2.2.1
noncomputable def flotsamref24_Set_sm : Sum := ⟨(.cons cModel cLink), (.cons (.d cModel) (.cons (.d .bool) .nil)), flotsamref24_Set⟩
noncomputable def flotsamref24_Set_L0 : LoopSum := { hc := ⟨[], [1, 2, 4, 7, 8, 12, 13], [(.tmp 12, cThing)], [], [0, 16, 32], [], 448⟩, h := ⟨[(1, (.d cI)), (2, (.d cI)), (4, (.pvar 0 [])), (7, (.pvar 16 [])), (8, (.pvar 32 [])), (12, (.row 448)), (13, (.d cI))], [(0, (.d cModel)), (16, (.d cVal)), (32, (.cons (.d cI) (.cons .nilsl (.cons .nilsl (.d .nil)))))], [(448, cThing, true)], 449⟩, xid := 0, oc := ⟨[], [4, 8, 12], [(.tmp 12, cThing)], [], [0, 32], [], 448⟩, o := ⟨[(4, (.pvar 0 [])), (8, (.pvar 32 [])), (12, (.row 448))], [(0, (.d cModel)), (32, (.cons (.d cI) (.cons .nilsl (.cons .nilsl (.d .nil)))))], [(448, cThing, true)], 449⟩, rc := ⟨[], [], [], [], [448], [], 448⟩, r := ⟨[], [], [], 448⟩, F := flotsamref24_Set_l0 }
noncomputable def flotsamref24_Set_S : List (Nat × Sum) := [(13, flotsamref24_Get_sm)]
noncomputable def flotsamref24_Set_fl : List (Nat × Func) := []
noncomputable def flotsamref24_Set_es : List AE := [⟨8, 17, 0, 0, flotsamref24_Set_L0⟩]
theorem flotsamref24_Set_den0 : (fun x => denStep TEv (look1 flotsamref24_Set_S) (look1 flotsamref24_Set_fl) (annOf flotsamref24_Set_es) 8 17 Go.Proofs.Try.f17.ntmps 0 (cat (bodyOf Go.Proofs.Try.f17) [true, true, true, true, false, true, false, false]) flotsamref24_Set_L0 x) = flotsamref24_Set_s0 := by kernel_rfl
theorem flotsamref24_Set_den : (fun x => denFun TEv (look1 flotsamref24_Set_S) (look1 flotsamref24_Set_fl) (annOf flotsamref24_Set_es) 8 17 Go.Proofs.Try.f17 flotsamref24_Set_sm.a flotsamref24_Set_sm.r x) = flotsamref24_Set_sm.F := by kernel_rfl
theorem flotsamref24_Set_ok0 : AEok Go.Proofs.Try.prog TEv (look1 flotsamref24_Set_S) (look1 flotsamref24_Set_fl) (annOf flotsamref24_Set_es) ⟨8, 17, 0, 0, flotsamref24_Set_L0⟩ := aeok_of 9223372036854775808 Go.Proofs.Try.func17 (by kernel_rfl) flotsamref24_Set_den0 (by kernel_rfl)
theorem flotsamref24_Set_sem : SemOf Go.Proofs.Try.prog 17 flotsamref24_Set_sm :=
  semMk teOk (sl := flotsamref24_Set_S) (all_cons flotsamref24_Get_sem all_nil) (fl := flotsamref24_Set_fl) (all_nil) (es := flotsamref24_Set_es) Go.Proofs.Try.func17 (by kernel_rfl) rfl (rng_none (by kernel_rfl) (by kernel_rfl)) (all_cons flotsamref24_Set_ok0 (all_nil)) rfl flotsamref24_Set_den

/-! ### flotsam/flotsamref01.Same -/
def flotsamref01_Same_s0r (v0 : List Val) (v1 : List Val) (v5 : Int) : Option (SRes (.cons (.sl cVal) (.cons (.sl cVal) (.cons cI .nil))) .nil (.cons .bool .nil)) :=
  bif decide (v5 < (v0.length : Int)) then
    bif decide (0 ≤ v5) then
      bif decide (v5 < (v0.length : Int)) then
        bif decide (0 ≤ v5) then
          bif decide (v5 < (v1.length : Int)) then
            bif !(((v0.getD v5.toNat (0, 0, ())).1 == (v1.getD v5.toNat (0, 0, ())).1) && (((v0.getD v5.toNat (0, 0, ())).2.1 == (v1.getD v5.toNat (0, 0, ())).2.1) && true)) then
              some (.fin (.ret (false, ())))
            else
            some (.next (v0, v1, wi64 (v5 + 1), ()))
          else none
        else none
      else none
    else none
  else
  some (.fin (.out ()))
def flotsamref01_Same_s0 (x : (List Val) × (List Val) × Int × Unit) : Option (SRes (.cons (.sl cVal) (.cons (.sl cVal) (.cons cI .nil))) .nil (.cons .bool .nil)) := flotsamref01_Same_s0r x.1 x.2.1 x.2.2.1
def flotsamref01_Same_l0 (x : (List Val) × (List Val) × Int × Unit) : Option (LRes .nil (.cons .bool .nil)) := iterL (h := (.cons (.sl cVal) (.cons (.sl cVal) (.cons cI .nil)))) (o := .nil) (r := (.cons .bool .nil)) flotsamref01_Same_s0 9223372036854775808 x
def flotsamref01_Same_r (a0 : List Val) (a1 : List Val) : Option (Bool × Unit) :=
  bif (a0.length : Int) != (a1.length : Int) then
    some (false, ())
  else
  (flotsamref01_Same_l0 (a0, a1, 0, ())).bind fun s1 => match s1 with
  | .out s1 =>
    some (true, ())
  | .ret s1 =>
    some (s1.1, ())
def flotsamref01_Same (x : (List Val) × (List Val) × Unit) : Option (Bool × Unit) := flotsamref01_Same_r x.1 x.2.1
noncomputable def flotsamref01_Same_sm : Sum := ⟨(.cons (.sl cVal) (.cons (.sl cVal) .nil)), (.cons (.d .bool) .nil), flotsamref01_Same⟩
noncomputable def flotsamref01_Same_L0 : LoopSum := { hc := ⟨[], [0, 1, 5], [], [], [], [], 112⟩, h := ⟨[(0, (.d (.sl cVal))), (1, (.d (.sl cVal))), (5, (.d cI))], [], [], 112⟩, xid := 0, oc := ⟨[], [], [], [], [], [], 112⟩, o := ⟨[], [], [], 112⟩, rc := ⟨[], [4], [], [], [], [], 112⟩, r := ⟨[(4, (.d .bool))], [], [], 112⟩, F := flotsamref01_Same_l0 }
noncomputable def flotsamref01_Same_S : List (Nat × Sum) := []
noncomputable def flotsamref01_Same_fl : List (Nat × Func) := []
noncomputable def flotsamref01_Same_es : List AE := [⟨8, 18, 0, 0, flotsamref01_Same_L0⟩]
theorem flotsamref01_Same_den0 : (fun x => denStep TEv (look1 flotsamref01_Same_S) (look1 flotsamref01_Same_fl) (annOf flotsamref01_Same_es) 8 18 Go.Proofs.Try.f18.ntmps 0 (cat (bodyOf Go.Proofs.Try.f18) [true, true, false, true, false, false]) flotsamref01_Same_L0 x) = flotsamref01_Same_s0 := by kernel_rfl
theorem flotsamref01_Same_den : (fun x => denFun TEv (look1 flotsamref01_Same_S) (look1 flotsamref01_Same_fl) (annOf flotsamref01_Same_es) 8 18 Go.Proofs.Try.f18 flotsamref01_Same_sm.a flotsamref01_Same_sm.r x) = flotsamref01_Same_sm.F := by kernel_rfl
theorem flotsamref01_Same_ok0 : AEok Go.Proofs.Try.prog TEv (look1 flotsamref01_Same_S) (look1 flotsamref01_Same_fl) (annOf flotsamref01_Same_es) ⟨8, 18, 0, 0, flotsamref01_Same_L0⟩ := aeok_of 9223372036854775808 Go.Proofs.Try.func18 (by kernel_rfl) flotsamref01_Same_den0 (by kernel_rfl)
theorem flotsamref01_Same_sem : SemOf Go.Proofs.Try.prog 18 flotsamref01_Same_sm :=
  semMk teOk (sl := flotsamref01_Same_S) (all_nil) (fl := flotsamref01_Same_fl) (all_nil) (es := flotsamref01_Same_es) Go.Proofs.Try.func18 (by kernel_rfl) rfl (rng_none (by kernel_rfl) (by kernel_rfl)) (all_cons flotsamref01_Same_ok0 (all_nil)) rfl flotsamref01_Same_den
end Go.Proofs.Ytdiogegolnoeoaa.Den
