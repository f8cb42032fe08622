/- What functions come to. Printed by a program of this session. -/
import Derived.Test.YtdiogegolnoeoaaDenF2
namespace Go.Proofs.Ytdiogegolnoeoaa.Den
open Go
set_option maxRecDepth 100000
set_option linter.unusedVariables false
/-! ### flotsam/flotsamref08.In -/
def flotsamref08_In_s0r (v0 : List Int) (v1 : Int) (v5 : Int) : Option (SRes (.cons (.sl cI) cVal) .nil (.cons .bool .nil)) :=
  bif decide (v5 < (v0.length : Int)) then
    bif decide (0 ≤ v5) then
      bif decide (v5 < (v0.length : Int)) then
        bif (v0.getD v5.toNat 0) == v1 then
          some (.fin (.ret (true, ())))
        else
        some (.next (v0, v1, wi64 (v5 + 1), ()))
      else none
    else none
  else
  some (.fin (.out ()))
def flotsamref08_In_s0 (x : (List Int) × Val) : Option (SRes (.cons (.sl cI) cVal) .nil (.cons .bool .nil)) := flotsamref08_In_s0r x.1 x.2.1 x.2.2.1
def flotsamref08_In_l0 (x : (List Int) × Val) : Option (LRes .nil (.cons .bool .nil)) := iterL (h := (.cons (.sl cI) cVal)) (o := .nil) (r := (.cons .bool .nil)) flotsamref08_In_s0 9223372036854775808 x
def flotsamref08_In_r (a0 : List Int) (a1 : Int) : Option (Bool × Unit) :=
  (flotsamref08_In_l0 (a0, a1, 0, ())).bind fun s1 => match s1 with
  | .out s1 =>
    some (false, ())
  | .ret s1 =>
    some (s1.1, ())
def flotsamref08_In (x : (List Int) × Int × Unit) : Option (Bool × Unit) := flotsamref08_In_r x.1 x.2.1
noncomputable def flotsamref08_In_sm : Sum := ⟨(.cons (.sl cI) (.cons cI .nil)), (.cons (.d .bool) .nil), flotsamref08_In⟩
noncomputable def flotsamref08_In_L0 : LoopSum := { hc := ⟨[], [0, 1, 5], [], [], [], [], 32⟩, h := ⟨[(0, (.d (.sl cI))), (1, (.d cI)), (5, (.d cI))], [], [], 32⟩, xid := 0, oc := ⟨[], [], [], [], [], [], 32⟩, o := ⟨[], [], [], 32⟩, rc := ⟨[], [4], [], [], [], [], 32⟩, r := ⟨[(4, (.d .bool))], [], [], 32⟩, F := flotsamref08_In_l0 }
noncomputable def flotsamref08_In_S : List (Nat × Sum) := []
noncomputable def flotsamref08_In_fl : List (Nat × Func) := []
noncomputable def flotsamref08_In_es : List AE := [⟨8, 29, 0, 0, flotsamref08_In_L0⟩]
theorem flotsamref08_In_den0 : (fun x => denStep TEv (look1 flotsamref08_In_S) (look1 flotsamref08_In_fl) (annOf flotsamref08_In_es) 8 29 Go.Proofs.Try.f29.ntmps 0 (cat (bodyOf Go.Proofs.Try.f29) [true, false, true, false, false]) flotsamref08_In_L0 x) = flotsamref08_In_s0 := by kernel_rfl
theorem flotsamref08_In_den : (fun x => denFun TEv (look1 flotsamref08_In_S) (look1 flotsamref08_In_fl) (annOf flotsamref08_In_es) 8 29 Go.Proofs.Try.f29 flotsamref08_In_sm.a flotsamref08_In_sm.r x) = flotsamref08_In_sm.F := by kernel_rfl
theorem flotsamref08_In_ok0 : AEok Go.Proofs.Try.prog TEv (look1 flotsamref08_In_S) (look1 flotsamref08_In_fl) (annOf flotsamref08_In_es) ⟨8, 29, 0, 0, flotsamref08_In_L0⟩ := aeok_of 9223372036854775808 Go.Proofs.Try.func29 (by kernel_rfl) flotsamref08_In_den0 (by kernel_rfl)
theorem flotsamref08_In_sem : SemOf Go.Proofs.Try.prog 29 flotsamref08_In_sm :=
  semMk teOk (sl := flotsamref08_In_S) (all_nil) (fl := flotsamref08_In_fl) (all_nil) (es := flotsamref08_In_es) Go.Proofs.Try.func29 (by kernel_rfl) rfl (rng_none (by kernel_rfl) (by kernel_rfl)) (all_cons flotsamref08_In_ok0 (all_nil)) rfl flotsamref08_In_den

/-! ### flotsam/flotsamref24.Kept -/
def flotsamref24_Kept_s0r (v1 : List Int) (v6 : Int) (c0 : Model) (c16_0 : Int) (c16_1 : Unit) (r64 : List Thing) : Option (SRes (.cons (.sl cI) (.cons cI (.cons cModel (.cons cI (.cons .nil (.cons (.sl cThing) .nil)))))) (.cons cModel (.cons cI (.cons .nil (.cons (.sl cThing) .nil)))) .nil) :=
  bif decide (v6 < (c0.2.1.length : Int)) then
    bif decide (0 ≤ v6) then
      bif decide (v6 < (c0.2.1.length : Int)) then
        (flotsamref08_In (v1, (c0.2.1.getD v6.toNat (0, [], ())).1, ())).bind fun y1 =>
        bif y1.1 then
          bif decide (0 ≤ v6) then
            bif decide (v6 < (c0.2.1.length : Int)) then
              bif decide ((r64.length + 1) * 32 ≤ 140737488355328) then
                some (.next (v1, wi64 (v6 + 1), c0, c16_0, c16_1, r64 ++ [c0.2.1.getD v6.toNat (0, [], ())], ()))
              else none
            else none
          else none
        else
        some (.next (v1, wi64 (v6 + 1), c0, c16_0, c16_1, r64, ()))
      else none
    else none
  else
  some (.fin (.out (c0, c16_0, c16_1, r64, ())))
def flotsamref24_Kept_s0 (x : (List Int) × Int × Model × Int × Unit × (List Thing) × Unit) : Option (SRes (.cons (.sl cI) (.cons cI (.cons cModel (.cons cI (.cons .nil (.cons (.sl cThing) .nil)))))) (.cons cModel (.cons cI (.cons .nil (.cons (.sl cThing) .nil)))) .nil) := flotsamref24_Kept_s0r x.1 x.2.1 x.2.2.1 x.2.2.2.1 x.2.2.2.2.1 x.2.2.2.2.2.1
def flotsamref24_Kept_l0 (x : (List Int) × Int × Model × Int × Unit × (List Thing) × Unit) : Option (LRes (.cons cModel (.cons cI (.cons .nil (.cons (.sl cThing) .nil)))) .nil) := iterL (h := (.cons (.sl cI) (.cons cI (.cons cModel (.cons cI (.cons .nil (.cons (.sl cThing) .nil))))))) (o := (.cons cModel (.cons cI (.cons .nil (.cons (.sl cThing) .nil))))) (r := .nil) flotsamref24_Kept_s0 9223372036854775808 x
def flotsamref24_Kept_r (a0 : Model) (a1 : List Int) : Option (Model × Unit) :=
  (flotsamref24_Kept_l0 (a1, 0, a0, 0, (), [], ())).bind fun s2 => match s2 with
  | .out s2 =>
    some ((s2.1.1, s2.2.2.2.1, s2.1.2.2), ())
  | .ret s2 =>
    none
def flotsamref24_Kept (x : Model × (List Int) × Unit) : Option (Model × Unit) := flotsamref24_Kept_r x.1 x.2.1
noncomputable def flotsamref24_Kept_sm : Sum := ⟨(.cons cModel (.cons (.sl cI) .nil)), (.cons (.cons (.d cI) (.cons (.own cThing) (.d (.cons (.sl (.sl cVal)) .nil)))) .nil), flotsamref24_Kept⟩
noncomputable def flotsamref24_Kept_L0 : LoopSum := { hc := ⟨[], [1, 2, 4, 5, 6], [(.tmp 5, cThing)], [], [0, 16], [], 64⟩, h := ⟨[(1, (.d (.sl cI))), (2, (.pvar 0 [])), (4, (.pvar 16 [])), (5, (.row 64)), (6, (.d cI))], [(0, (.d cModel)), (16, (.cons (.d cI) (.cons .nilsl (.cons .nilsl (.d .nil)))))], [(64, cThing, true)], 65⟩, xid := 0, oc := ⟨[], [2, 4, 5], [(.tmp 5, cThing)], [], [0, 16], [], 64⟩, o := ⟨[(2, (.pvar 0 [])), (4, (.pvar 16 [])), (5, (.row 64))], [(0, (.d cModel)), (16, (.cons (.d cI) (.cons .nilsl (.cons .nilsl (.d .nil)))))], [(64, cThing, true)], 65⟩, rc := ⟨[], [], [], [], [64], [], 64⟩, r := ⟨[], [], [], 64⟩, F := flotsamref24_Kept_l0 }
noncomputable def flotsamref24_Kept_S : List (Nat × Sum) := [(29, flotsamref08_In_sm)]
noncomputable def flotsamref24_Kept_fl : List (Nat × Func) := []
noncomputable def flotsamref24_Kept_es : List AE := [⟨8, 27, 0, 0, flotsamref24_Kept_L0⟩]
theorem flotsamref24_Kept_den0 : (fun x => denStep TEv (look1 flotsamref24_Kept_S) (look1 flotsamref24_Kept_fl) (annOf flotsamref24_Kept_es) 8 27 Go.Proofs.Try.f27.ntmps 0 (cat (bodyOf Go.Proofs.Try.f27) [true, true, false, true, false, false]) flotsamref24_Kept_L0 x) = flotsamref24_Kept_s0 := by kernel_rfl
theorem flotsamref24_Kept_den : (fun x => denFun TEv (look1 flotsamref24_Kept_S) (look1 flotsamref24_Kept_fl) (annOf flotsamref24_Kept_es) 8 27 Go.Proofs.Try.f27 flotsamref24_Kept_sm.a flotsamref24_Kept_sm.r x) = flotsamref24_Kept_sm.F := by kernel_rfl
theorem flotsamref24_Kept_ok0 : AEok Go.Proofs.Try.prog TEv (look1 flotsamref24_Kept_S) (look1 flotsamref24_Kept_fl) (annOf flotsamref24_Kept_es) ⟨8, 27, 0, 0, flotsamref24_Kept_L0⟩ := aeok_of 9223372036854775808 Go.Proofs.Try.func27 (by kernel_rfl) flotsamref24_Kept_den0 (by kernel_rfl)
theorem flotsamref24_Kept_sem : SemOf Go.Proofs.Try.prog 27 flotsamref24_Kept_sm :=
  semMk teOk (sl := flotsamref24_Kept_S) (all_cons flotsamref08_In_sem all_nil) (fl := flotsamref24_Kept_fl) (all_nil) (es := flotsamref24_Kept_es) Go.Proofs.Try.func27 (by kernel_rfl) rfl (rng_none (by kernel_rfl) (by kernel_rfl)) (all_cons flotsamref24_Kept_ok0 (all_nil)) rfl flotsamref24_Kept_den

/-! ### flotsam/flotsamlaw24.ModelReaches -/
def flotsamlaw24_ModelReaches_r (a0 : Model) (a1 : List Val) (a2 : List Int) : Option (Bool × Unit) :=
  (flotsamlaw24_awake ()).bind fun y1 =>
  bif !y1.1 then
    (flotsamlaw24_awake ()).bind fun y2 =>
    some (y2.1, ())
  else
  (flotsamlaw24_fits (a0, ())).bind fun y3 =>
  bif !y3.1 then
    (flotsamlaw24_awake ()).bind fun y4 =>
    some (y4.1, ())
  else
  bif decide ((a1.length : Int) > 50) then
    (flotsamlaw24_awake ()).bind fun y5 =>
    some (y5.1, ())
  else
  bif decide ((a2.length : Int) > 50) then
    (flotsamlaw24_awake ()).bind fun y6 =>
    some (y6.1, ())
  else
  (model_Reach (a0, a1, ())).bind fun y7 =>
  (flotsamref24_Reach (a0, a1, ())).bind fun y8 =>
  (flotsamref08_Ints (y7.1, y8.1, ())).bind fun y9 =>
  bif y9.1 then
    (model_Kept (a0, a2, ())).bind fun y10 =>
    (flotsamref24_Kept (a0, a2, ())).bind fun y11 =>
    (flotsamref24_Same (y10.1, (y11.1.1, y11.1.2.1, y11.1.2.2), ())).bind fun y12 =>
    some (y12.1, ())
  else
  some (false, ())
def flotsamlaw24_ModelReaches (x : Model × (List Val) × (List Int) × Unit) : Option (Bool × Unit) := flotsamlaw24_ModelReaches_r x.1 x.2.1 x.2.2.1
noncomputable def flotsamlaw24_ModelReaches_sm : Sum := ⟨(.cons cModel (.cons (.sl cVal) (.cons (.sl cI) .nil))), (.cons (.d .bool) .nil), flotsamlaw24_ModelReaches⟩
noncomputable def flotsamlaw24_ModelReaches_S : List (Nat × Sum) := [(8, flotsamlaw24_awake_sm), (19, flotsamref24_Same_sm), (20, flotsamlaw24_fits_sm), (23, flotsamref08_Ints_sm), (24, model_Reach_sm), (25, flotsamref24_Reach_sm), (26, model_Kept_sm), (27, flotsamref24_Kept_sm)]
noncomputable def flotsamlaw24_ModelReaches_fl : List (Nat × Func) := []
noncomputable def flotsamlaw24_ModelReaches_es : List AE := []
theorem flotsamlaw24_ModelReaches_den : (fun x => denFun TEv (look1 flotsamlaw24_ModelReaches_S) (look1 flotsamlaw24_ModelReaches_fl) (annOf flotsamlaw24_ModelReaches_es) 8 5 Go.Proofs.Try.f5 flotsamlaw24_ModelReaches_sm.a flotsamlaw24_ModelReaches_sm.r x) = flotsamlaw24_ModelReaches_sm.F := by kernel_rfl
theorem flotsamlaw24_ModelReaches_sem : SemOf Go.Proofs.Try.prog 5 flotsamlaw24_ModelReaches_sm :=
  semMk teOk (sl := flotsamlaw24_ModelReaches_S) (all_cons flotsamlaw24_awake_sem (all_cons flotsamref24_Same_sem (all_cons flotsamlaw24_fits_sem (all_cons flotsamref08_Ints_sem (all_cons model_Reach_sem (all_cons flotsamref24_Reach_sem (all_cons model_Kept_sem (all_cons flotsamref24_Kept_sem all_nil)))))))) (fl := flotsamlaw24_ModelReaches_fl) (all_nil) (es := flotsamlaw24_ModelReaches_es) Go.Proofs.Try.func5 (by kernel_rfl) rfl (rng_none (by kernel_rfl) (by kernel_rfl)) (all_nil) rfl flotsamlaw24_ModelReaches_den

/-! ### flotsam/flotsamlaw24.ModelGraph -/
def flotsamlaw24_ModelGraph_s0r (v0 : List Int) (v1 : List Link) (v2 : List Int) (v8 : Int) (c304_0 : Int) (c304_1 : (List (List Val)) × Unit) (r352 : List Thing) : Option (SRes (.cons (.sl (.int .u8)) (.cons (.sl cLink) (.cons (.sl (.int .u8)) (.cons cI (.cons cI (.cons (.cons (.sl (.sl cVal)) .nil) (.cons (.sl cThing) .nil))))))) (.cons (.sl (.int .u8)) (.cons (.sl cLink) (.cons (.sl (.int .u8)) (.cons cI (.cons (.cons (.sl (.sl cVal)) .nil) (.cons (.sl cThing) .nil)))))) (.cons .bool .nil)) :=
  bif decide (v8 < (v0.length : Int)) then
    bif decide (0 ≤ v8) then
      bif decide (v8 < (v0.length : Int)) then
        (model_Make ((c304_0, r352, c304_1), wi64 ((v0.getD v8.toNat 0).tmod 16), ())).bind fun y7 =>
        bif y7.2.1 != v8 then
          some (.fin (.ret (false, ())))
        else
        some (.next (v0, v1, v2, wi64 (v8 + 1), y7.1.1, (y7.1.2.2.1, y7.1.2.2.2), y7.1.2.1, ()))
      else none
    else none
  else
  some (.fin (.out (v0, v1, v2, c304_0, c304_1, r352, ())))
def flotsamlaw24_ModelGraph_s0 (x : (List Int) × (List Link) × (List Int) × Int × Int × ((List (List Val)) × Unit) × (List Thing) × Unit) : Option (SRes (.cons (.sl (.int .u8)) (.cons (.sl cLink) (.cons (.sl (.int .u8)) (.cons cI (.cons cI (.cons (.cons (.sl (.sl cVal)) .nil) (.cons (.sl cThing) .nil))))))) (.cons (.sl (.int .u8)) (.cons (.sl cLink) (.cons (.sl (.int .u8)) (.cons cI (.cons (.cons (.sl (.sl cVal)) .nil) (.cons (.sl cThing) .nil)))))) (.cons .bool .nil)) := flotsamlaw24_ModelGraph_s0r x.1 x.2.1 x.2.2.1 x.2.2.2.1 x.2.2.2.2.1 x.2.2.2.2.2.1 x.2.2.2.2.2.2.1
def flotsamlaw24_ModelGraph_l0 (x : (List Int) × (List Link) × (List Int) × Int × Int × ((List (List Val)) × Unit) × (List Thing) × Unit) : Option (LRes (.cons (.sl (.int .u8)) (.cons (.sl cLink) (.cons (.sl (.int .u8)) (.cons cI (.cons (.cons (.sl (.sl cVal)) .nil) (.cons (.sl cThing) .nil)))))) (.cons .bool .nil)) := iterL (h := (.cons (.sl (.int .u8)) (.cons (.sl cLink) (.cons (.sl (.int .u8)) (.cons cI (.cons cI (.cons (.cons (.sl (.sl cVal)) .nil) (.cons (.sl cThing) .nil)))))))) (o := (.cons (.sl (.int .u8)) (.cons (.sl cLink) (.cons (.sl (.int .u8)) (.cons cI (.cons (.cons (.sl (.sl cVal)) .nil) (.cons (.sl cThing) .nil))))))) (r := (.cons .bool .nil)) flotsamlaw24_ModelGraph_s0 9223372036854775808 x
def flotsamlaw24_ModelGraph_s1r (v0 : List Int) (v1 : List Link) (v2 : List Int) (v11 : Int) (c304 : Model) : Option (SRes (.cons (.sl (.int .u8)) (.cons (.sl cLink) (.cons (.sl (.int .u8)) (.cons cI (.cons cModel .nil))))) (.cons (.sl (.int .u8)) (.cons (.sl (.int .u8)) (.cons cModel .nil))) (.cons .bool .nil)) :=
  bif decide (v11 < (v1.length : Int)) then
    bif decide (0 ≤ v11) then
      bif decide (v11 < (v1.length : Int)) then
        (model_Set (c304, (v1.getD v11.toNat (0, 0, (0, 0, ()), ())).1, (v1.getD v11.toNat (0, 0, (0, 0, ()), ())).2.1, (v1.getD v11.toNat (0, 0, (0, 0, ()), ())).2.2.1, ())).bind fun y9 =>
        bif decide ((v1.getD v11.toNat (0, 0, (0, 0, ()), ())).1 ≥ 0) then
          bif decide ((v1.getD v11.toNat (0, 0, (0, 0, ()), ())).1 < (v0.length : Int)) then
            bif decide ((v1.getD v11.toNat (0, 0, (0, 0, ()), ())).2.1 ≥ 0) then
              bif decide (0 ≤ (bif decide ((v1.getD v11.toNat (0, 0, (0, 0, ()), ())).1 < 0) then 0 else (v1.getD v11.toNat (0, 0, (0, 0, ()), ())).1)) then
                bif decide ((bif decide ((v1.getD v11.toNat (0, 0, (0, 0, ()), ())).1 < 0) then 0 else (v1.getD v11.toNat (0, 0, (0, 0, ()), ())).1) < (v0.length : Int)) then
                  bif !(y9.2.1 == (decide ((v1.getD v11.toNat (0, 0, (0, 0, ()), ())).2.1 < (wi64 ((v0.getD (bif decide ((v1.getD v11.toNat (0, 0, (0, 0, ()), ())).1 < 0) then 0 else (v1.getD v11.toNat (0, 0, (0, 0, ()), ())).1).toNat 0).tmod 16))))) then
                    some (.fin (.ret (false, ())))
                  else
                  (model_Get (y9.1, (v1.getD v11.toNat (0, 0, (0, 0, ()), ())).1, ())).bind fun y10 =>
                  bif y9.2.1 then
                    bif decide ((v1.getD v11.toNat (0, 0, (0, 0, ()), ())).2.1 ≥ (y10.1.2.1.length : Int)) then
                      some (.fin (.ret (false, ())))
                    else
                    bif decide (0 ≤ (v1.getD v11.toNat (0, 0, (0, 0, ()), ())).2.1) then
                      bif decide ((v1.getD v11.toNat (0, 0, (0, 0, ()), ())).2.1 < (y10.1.2.1.length : Int)) then
                        bif !(((y10.1.2.1.getD (v1.getD v11.toNat (0, 0, (0, 0, ()), ())).2.1.toNat (0, 0, ())).1 == (v1.getD v11.toNat (0, 0, (0, 0, ()), ())).2.2.1.1) && (((y10.1.2.1.getD (v1.getD v11.toNat (0, 0, (0, 0, ()), ())).2.1.toNat (0, 0, ())).2.1 == (v1.getD v11.toNat (0, 0, (0, 0, ()), ())).2.2.1.2.1) && true)) then
                          some (.fin (.ret (false, ())))
                        else
                        some (.next (v0, v1, v2, wi64 (v11 + 1), y9.1, ()))
                      else none
                    else none
                  else
                  some (.next (v0, v1, v2, wi64 (v11 + 1), y9.1, ()))
                else none
              else none
            else
            bif !(y9.2.1 == false) then
              some (.fin (.ret (false, ())))
            else
            (model_Get (y9.1, (v1.getD v11.toNat (0, 0, (0, 0, ()), ())).1, ())).bind fun y11 =>
            bif y9.2.1 then
              bif decide ((v1.getD v11.toNat (0, 0, (0, 0, ()), ())).2.1 ≥ (y11.1.2.1.length : Int)) then
                some (.fin (.ret (false, ())))
              else
              bif decide (0 ≤ (v1.getD v11.toNat (0, 0, (0, 0, ()), ())).2.1) then
                bif decide ((v1.getD v11.toNat (0, 0, (0, 0, ()), ())).2.1 < (y11.1.2.1.length : Int)) then
                  bif !(((y11.1.2.1.getD (v1.getD v11.toNat (0, 0, (0, 0, ()), ())).2.1.toNat (0, 0, ())).1 == (v1.getD v11.toNat (0, 0, (0, 0, ()), ())).2.2.1.1) && (((y11.1.2.1.getD (v1.getD v11.toNat (0, 0, (0, 0, ()), ())).2.1.toNat (0, 0, ())).2.1 == (v1.getD v11.toNat (0, 0, (0, 0, ()), ())).2.2.1.2.1) && true)) then
                    some (.fin (.ret (false, ())))
                  else
                  some (.next (v0, v1, v2, wi64 (v11 + 1), y9.1, ()))
                else none
              else none
            else
            some (.next (v0, v1, v2, wi64 (v11 + 1), y9.1, ()))
          else
          bif !(y9.2.1 == false) then
            some (.fin (.ret (false, ())))
          else
          (model_Get (y9.1, (v1.getD v11.toNat (0, 0, (0, 0, ()), ())).1, ())).bind fun y12 =>
          bif y9.2.1 then
            bif decide ((v1.getD v11.toNat (0, 0, (0, 0, ()), ())).2.1 ≥ (y12.1.2.1.length : Int)) then
              some (.fin (.ret (false, ())))
            else
            bif decide (0 ≤ (v1.getD v11.toNat (0, 0, (0, 0, ()), ())).2.1) then
              bif decide ((v1.getD v11.toNat (0, 0, (0, 0, ()), ())).2.1 < (y12.1.2.1.length : Int)) then
                bif !(((y12.1.2.1.getD (v1.getD v11.toNat (0, 0, (0, 0, ()), ())).2.1.toNat (0, 0, ())).1 == (v1.getD v11.toNat (0, 0, (0, 0, ()), ())).2.2.1.1) && (((y12.1.2.1.getD (v1.getD v11.toNat (0, 0, (0, 0, ()), ())).2.1.toNat (0, 0, ())).2.1 == (v1.getD v11.toNat (0, 0, (0, 0, ()), ())).2.2.1.2.1) && true)) then
                  some (.fin (.ret (false, ())))
                else
                some (.next (v0, v1, v2, wi64 (v11 + 1), y9.1, ()))
              else none
            else none
          else
          some (.next (v0, v1, v2, wi64 (v11 + 1), y9.1, ()))
        else
        bif !(y9.2.1 == false) then
          some (.fin (.ret (false, ())))
        else
        (model_Get (y9.1, (v1.getD v11.toNat (0, 0, (0, 0, ()), ())).1, ())).bind fun y13 =>
        bif y9.2.1 then
          bif decide ((v1.getD v11.toNat (0, 0, (0, 0, ()), ())).2.1 ≥ (y13.1.2.1.length : Int)) then
            some (.fin (.ret (false, ())))
          else
          bif decide (0 ≤ (v1.getD v11.toNat (0, 0, (0, 0, ()), ())).2.1) then
            bif decide ((v1.getD v11.toNat (0, 0, (0, 0, ()), ())).2.1 < (y13.1.2.1.length : Int)) then
              bif !(((y13.1.2.1.getD (v1.getD v11.toNat (0, 0, (0, 0, ()), ())).2.1.toNat (0, 0, ())).1 == (v1.getD v11.toNat (0, 0, (0, 0, ()), ())).2.2.1.1) && (((y13.1.2.1.getD (v1.getD v11.toNat (0, 0, (0, 0, ()), ())).2.1.toNat (0, 0, ())).2.1 == (v1.getD v11.toNat (0, 0, (0, 0, ()), ())).2.2.1.2.1) && true)) then
                some (.fin (.ret (false, ())))
              else
              some (.next (v0, v1, v2, wi64 (v11 + 1), y9.1, ()))
            else none
          else none
        else
        some (.next (v0, v1, v2, wi64 (v11 + 1), y9.1, ()))
      else none
    else none
  else
  some (.fin (.out (v0, v2, c304, ())))
def flotsamlaw24_ModelGraph_s1 (x : (List Int) × (List Link) × (List Int) × Int × Model × Unit) : Option (SRes (.cons (.sl (.int .u8)) (.cons (.sl cLink) (.cons (.sl (.int .u8)) (.cons cI (.cons cModel .nil))))) (.cons (.sl (.int .u8)) (.cons (.sl (.int .u8)) (.cons cModel .nil))) (.cons .bool .nil)) := flotsamlaw24_ModelGraph_s1r x.1 x.2.1 x.2.2.1 x.2.2.2.1 x.2.2.2.2.1
def flotsamlaw24_ModelGraph_l1 (x : (List Int) × (List Link) × (List Int) × Int × Model × Unit) : Option (LRes (.cons (.sl (.int .u8)) (.cons (.sl (.int .u8)) (.cons cModel .nil))) (.cons .bool .nil)) := iterL (h := (.cons (.sl (.int .u8)) (.cons (.sl cLink) (.cons (.sl (.int .u8)) (.cons cI (.cons cModel .nil)))))) (o := (.cons (.sl (.int .u8)) (.cons (.sl (.int .u8)) (.cons cModel .nil)))) (r := (.cons .bool .nil)) flotsamlaw24_ModelGraph_s1 9223372036854775808 x
def flotsamlaw24_ModelGraph_s2r (v0 : List Int) (v2 : List Int) (v18 : Int) (c304 : Model) (r401 : List Val) : Option (SRes (.cons (.sl (.int .u8)) (.cons (.sl (.int .u8)) (.cons cI (.cons cModel (.cons (.sl cVal) .nil))))) (.cons (.sl (.int .u8)) (.cons cModel (.cons (.sl cVal) .nil))) .nil) :=
  bif decide (v18 < (v2.length : Int)) then
    bif decide (0 ≤ v18) then
      bif decide (v18 < (v2.length : Int)) then
        bif decide ((r401.length + 1) * 16 ≤ 140737488355328) then
          some (.next (v0, v2, wi64 (v18 + 1), c304, r401 ++ [(2, wi64 ((v2.getD v18.toNat 0).tmod 16), ())], ()))
        else none
      else none
    else none
  else
  some (.fin (.out (v0, c304, r401, ())))
def flotsamlaw24_ModelGraph_s2 (x : (List Int) × (List Int) × Int × Model × (List Val) × Unit) : Option (SRes (.cons (.sl (.int .u8)) (.cons (.sl (.int .u8)) (.cons cI (.cons cModel (.cons (.sl cVal) .nil))))) (.cons (.sl (.int .u8)) (.cons cModel (.cons (.sl cVal) .nil))) .nil) := flotsamlaw24_ModelGraph_s2r x.1 x.2.1 x.2.2.1 x.2.2.2.1 x.2.2.2.2.1
def flotsamlaw24_ModelGraph_l2 (x : (List Int) × (List Int) × Int × Model × (List Val) × Unit) : Option (LRes (.cons (.sl (.int .u8)) (.cons cModel (.cons (.sl cVal) .nil))) .nil) := iterL (h := (.cons (.sl (.int .u8)) (.cons (.sl (.int .u8)) (.cons cI (.cons cModel (.cons (.sl cVal) .nil)))))) (o := (.cons (.sl (.int .u8)) (.cons cModel (.cons (.sl cVal) .nil)))) (r := .nil) flotsamlaw24_ModelGraph_s2 9223372036854775808 x
def flotsamlaw24_ModelGraph_s3r (v0 : List Int) (v20 : Int) (v23 : Int) (c304 : Model) (c690 : Thing) (r401 : List Val) (r434 : List Int) : Option (SRes (.cons (.sl (.int .u8)) (.cons cI (.cons cI (.cons cModel (.cons cThing (.cons (.sl cVal) (.cons (.sl cI) .nil))))))) (.cons (.sl (.int .u8)) (.cons cI (.cons cModel (.cons (.sl cVal) (.cons (.sl cI) .nil))))) (.cons .bool .nil)) :=
  bif decide (v23 < (c690.2.1.length : Int)) then
    bif decide (0 ≤ v23) then
      bif decide (v23 < (c690.2.1.length : Int)) then
        bif (c690.2.1.getD v23.toNat (0, 0, ())).1 == 2 then
          bif decide ((c690.2.1.getD v23.toNat (0, 0, ())).2.1 ≥ 0) then
            bif decide ((c690.2.1.getD v23.toNat (0, 0, ())).2.1 < (v0.length : Int)) then
              (flotsamref08_In (r434, (c690.2.1.getD v23.toNat (0, 0, ())).2.1, ())).bind fun y18 =>
              bif !y18.1 then
                some (.fin (.ret (false, ())))
              else
              some (.next (v0, v20, wi64 (v23 + 1), c304, c690, r401, r434, ()))
            else
            some (.next (v0, v20, wi64 (v23 + 1), c304, c690, r401, r434, ()))
          else
          some (.next (v0, v20, wi64 (v23 + 1), c304, c690, r401, r434, ()))
        else
        some (.next (v0, v20, wi64 (v23 + 1), c304, c690, r401, r434, ()))
      else none
    else none
  else
  some (.fin (.out (v0, v20, c304, r401, r434, ())))
def flotsamlaw24_ModelGraph_s3 (x : (List Int) × Int × Int × Model × Thing × (List Val) × (List Int) × Unit) : Option (SRes (.cons (.sl (.int .u8)) (.cons cI (.cons cI (.cons cModel (.cons cThing (.cons (.sl cVal) (.cons (.sl cI) .nil))))))) (.cons (.sl (.int .u8)) (.cons cI (.cons cModel (.cons (.sl cVal) (.cons (.sl cI) .nil))))) (.cons .bool .nil)) := flotsamlaw24_ModelGraph_s3r x.1 x.2.1 x.2.2.1 x.2.2.2.1 x.2.2.2.2.1 x.2.2.2.2.2.1 x.2.2.2.2.2.2.1
def flotsamlaw24_ModelGraph_l3 (x : (List Int) × Int × Int × Model × Thing × (List Val) × (List Int) × Unit) : Option (LRes (.cons (.sl (.int .u8)) (.cons cI (.cons cModel (.cons (.sl cVal) (.cons (.sl cI) .nil))))) (.cons .bool .nil)) := iterL (h := (.cons (.sl (.int .u8)) (.cons cI (.cons cI (.cons cModel (.cons cThing (.cons (.sl cVal) (.cons (.sl cI) .nil)))))))) (o := (.cons (.sl (.int .u8)) (.cons cI (.cons cModel (.cons (.sl cVal) (.cons (.sl cI) .nil)))))) (r := (.cons .bool .nil)) flotsamlaw24_ModelGraph_s3 9223372036854775808 x
def flotsamlaw24_ModelGraph_s4r (v0 : List Int) (v20 : Int) (c304 : Model) (r401 : List Val) (r434 : List Int) : Option (SRes (.cons (.sl (.int .u8)) (.cons cI (.cons cModel (.cons (.sl cVal) (.cons (.sl cI) .nil))))) (.cons (.sl (.int .u8)) (.cons cModel (.cons (.sl cVal) (.cons (.sl cI) .nil)))) (.cons .bool .nil)) :=
  bif decide (v20 < (r434.length : Int)) then
    bif decide (0 ≤ v20) then
      bif decide (v20 < (r434.length : Int)) then
        (model_Get (c304, r434.getD v20.toNat 0, ())).bind fun y17 =>
        bif !y17.2.1 then
          some (.fin (.ret (false, ())))
        else
        (flotsamlaw24_ModelGraph_l3 (v0, v20, 0, c304, y17.1, r401, r434, ())).bind fun s19 => match s19 with
        | .out s19 =>
          some (.next (s19.1, wi64 (s19.2.1 + 1), s19.2.2.1, s19.2.2.2.1, s19.2.2.2.2.1, ()))
        | .ret s19 =>
          some (.fin (.ret (s19.1, ())))
      else none
    else none
  else
  some (.fin (.out (v0, c304, r401, r434, ())))
def flotsamlaw24_ModelGraph_s4 (x : (List Int) × Int × Model × (List Val) × (List Int) × Unit) : Option (SRes (.cons (.sl (.int .u8)) (.cons cI (.cons cModel (.cons (.sl cVal) (.cons (.sl cI) .nil))))) (.cons (.sl (.int .u8)) (.cons cModel (.cons (.sl cVal) (.cons (.sl cI) .nil)))) (.cons .bool .nil)) := flotsamlaw24_ModelGraph_s4r x.1 x.2.1 x.2.2.1 x.2.2.2.1 x.2.2.2.2.1
def flotsamlaw24_ModelGraph_l4 (x : (List Int) × Int × Model × (List Val) × (List Int) × Unit) : Option (LRes (.cons (.sl (.int .u8)) (.cons cModel (.cons (.sl cVal) (.cons (.sl cI) .nil)))) (.cons .bool .nil)) := iterL (h := (.cons (.sl (.int .u8)) (.cons cI (.cons cModel (.cons (.sl cVal) (.cons (.sl cI) .nil)))))) (o := (.cons (.sl (.int .u8)) (.cons cModel (.cons (.sl cVal) (.cons (.sl cI) .nil))))) (r := (.cons .bool .nil)) flotsamlaw24_ModelGraph_s4 9223372036854775808 x
def flotsamlaw24_ModelGraph_s5r (v0 : List Int) (v25 : Int) (c304 : Model) (r401 : List Val) (r434 : List Int) : Option (SRes (.cons (.sl (.int .u8)) (.cons cI (.cons cModel (.cons (.sl cVal) (.cons (.sl cI) .nil))))) (.cons cModel (.cons (.sl cVal) (.cons (.sl cI) .nil))) (.cons .bool .nil)) :=
  bif decide (v25 < (r401.length : Int)) then
    bif decide (0 ≤ v25) then
      bif decide (v25 < (r401.length : Int)) then
        bif decide ((r401.getD v25.toNat (0, 0, ())).2.1 < (v0.length : Int)) then
          bif decide (0 ≤ v25) then
            bif decide (v25 < (r401.length : Int)) then
              (flotsamref08_In (r434, (r401.getD v25.toNat (0, 0, ())).2.1, ())).bind fun y21 =>
              bif !y21.1 then
                some (.fin (.ret (false, ())))
              else
              some (.next (v0, wi64 (v25 + 1), c304, r401, r434, ()))
            else none
          else none
        else
        some (.next (v0, wi64 (v25 + 1), c304, r401, r434, ()))
      else none
    else none
  else
  some (.fin (.out (c304, r401, r434, ())))
def flotsamlaw24_ModelGraph_s5 (x : (List Int) × Int × Model × (List Val) × (List Int) × Unit) : Option (SRes (.cons (.sl (.int .u8)) (.cons cI (.cons cModel (.cons (.sl cVal) (.cons (.sl cI) .nil))))) (.cons cModel (.cons (.sl cVal) (.cons (.sl cI) .nil))) (.cons .bool .nil)) := flotsamlaw24_ModelGraph_s5r x.1 x.2.1 x.2.2.1 x.2.2.2.1 x.2.2.2.2.1
def flotsamlaw24_ModelGraph_l5 (x : (List Int) × Int × Model × (List Val) × (List Int) × Unit) : Option (LRes (.cons cModel (.cons (.sl cVal) (.cons (.sl cI) .nil))) (.cons .bool .nil)) := iterL (h := (.cons (.sl (.int .u8)) (.cons cI (.cons cModel (.cons (.sl cVal) (.cons (.sl cI) .nil)))))) (o := (.cons cModel (.cons (.sl cVal) (.cons (.sl cI) .nil)))) (r := (.cons .bool .nil)) flotsamlaw24_ModelGraph_s5 9223372036854775808 x
def flotsamlaw24_ModelGraph_r (a0 : List Int) (a1 : List Link) (a2 : List Int) : Option (Bool × Unit) :=
  (flotsamlaw24_awake ()).bind fun y1 =>
  bif !y1.1 then
    (flotsamlaw24_awake ()).bind fun y2 =>
    some (y2.1, ())
  else
  bif decide ((a0.length : Int) > 12) then
    (flotsamlaw24_awake ()).bind fun y3 =>
    some (y3.1, ())
  else
  bif decide ((a1.length : Int) > 40) then
    (flotsamlaw24_awake ()).bind fun y4 =>
    some (y4.1, ())
  else
  bif decide ((a2.length : Int) > 8) then
    (flotsamlaw24_awake ()).bind fun y5 =>
    some (y5.1, ())
  else
  (model_New (0, ())).bind fun y6 =>
  (flotsamlaw24_ModelGraph_l0 (a0, a1, a2, 0, y6.1.1, (y6.1.2.2.1, ()), y6.1.2.1, ())).bind fun s8 => match s8 with
  | .out s8 =>
    (flotsamlaw24_ModelGraph_l1 (s8.1, s8.2.1, s8.2.2.1, 0, (s8.2.2.2.1, s8.2.2.2.2.2.1, s8.2.2.2.2.1), ())).bind fun s14 => match s14 with
    | .out s14 =>
      (flotsamlaw24_ModelGraph_l2 (s14.1, s14.2.1, 0, s14.2.2.1, [], ())).bind fun s15 => match s15 with
      | .out s15 =>
        (model_Reach (s15.2.1, s15.2.2.1, ())).bind fun y16 =>
        (flotsamlaw24_ModelGraph_l4 (s15.1, 0, s15.2.1, s15.2.2.1, y16.1, ())).bind fun s20 => match s20 with
        | .out s20 =>
          (flotsamlaw24_ModelGraph_l5 (s20.1, 0, s20.2.1, s20.2.2.1, s20.2.2.2.1, ())).bind fun s22 => match s22 with
          | .out s22 =>
            (model_Kept (s22.1, s22.2.2.1, ())).bind fun y23 =>
            (model_Reach (y23.1, s22.2.1, ())).bind fun y24 =>
            (flotsamref08_Ints (y24.1, s22.2.2.1, ())).bind fun y25 =>
            some (y25.1, ())
          | .ret s22 =>
            some (s22.1, ())
        | .ret s20 =>
          some (s20.1, ())
      | .ret s15 =>
        none
    | .ret s14 =>
      some (s14.1, ())
  | .ret s8 =>
    some (s8.1, ())
def flotsamlaw24_ModelGraph (x : (List Int) × (List Link) × (List Int) × Unit) : Option (Bool × Unit) := flotsamlaw24_ModelGraph_r x.1 x.2.1 x.2.2.1
noncomputable def flotsamlaw24_ModelGraph_sm : Sum := ⟨(.cons (.sl (.int .u8)) (.cons (.sl cLink) (.cons (.sl (.int .u8)) .nil))), (.cons (.d .bool) .nil), flotsamlaw24_ModelGraph⟩
noncomputable def flotsamlaw24_ModelGraph_L0 : LoopSum := { hc := ⟨[(.key 304 [.fld 2], (.sl (.sl cVal)))], [0, 1, 2, 7, 8], [(.key 304 [.fld 1], cThing)], [], [304], [], 352⟩, h := ⟨[(0, (.d (.sl (.int .u8)))), (1, (.d (.sl cLink))), (2, (.d (.sl (.int .u8)))), (7, (.pvar 304 [])), (8, (.d cI))], [(304, (.cons (.d cI) (.cons (.row 352) (.d (.cons (.sl (.sl cVal)) .nil)))))], [(352, cThing, true)], 353⟩, xid := 0, oc := ⟨[], [0, 1, 2, 7], [(.ptr 7 [.fld 1], cThing)], [], [304], [], 352⟩, o := ⟨[(0, (.d (.sl (.int .u8)))), (1, (.d (.sl cLink))), (2, (.d (.sl (.int .u8)))), (7, (.pvar 304 []))], [(304, (.cons (.d cI) (.cons (.row 352) (.d (.cons (.sl (.sl cVal)) .nil)))))], [(352, cThing, true)], 353⟩, rc := ⟨[], [6], [], [], [], [], 352⟩, r := ⟨[(6, (.d .bool))], [], [], 352⟩, F := flotsamlaw24_ModelGraph_l0 }
noncomputable def flotsamlaw24_ModelGraph_L1 : LoopSum := { hc := ⟨[(.key 304 [], cModel)], [0, 1, 2, 7, 11], [], [], [304], [], 369⟩, h := ⟨[(0, (.d (.sl (.int .u8)))), (1, (.d (.sl cLink))), (2, (.d (.sl (.int .u8)))), (7, (.pvar 304 [])), (11, (.d cI))], [(304, (.d cModel))], [], 369⟩, xid := 2, oc := ⟨[], [0, 2, 7], [], [], [304], [], 369⟩, o := ⟨[(0, (.d (.sl (.int .u8)))), (2, (.d (.sl (.int .u8)))), (7, (.pvar 304 []))], [(304, (.d cModel))], [], 369⟩, rc := ⟨[], [6], [], [], [], [], 369⟩, r := ⟨[(6, (.d .bool))], [], [], 369⟩, F := flotsamlaw24_ModelGraph_l1 }
noncomputable def flotsamlaw24_ModelGraph_L2 : LoopSum := { hc := ⟨[], [0, 2, 7, 17, 18], [(.tmp 17, cVal)], [], [304], [], 401⟩, h := ⟨[(0, (.d (.sl (.int .u8)))), (2, (.d (.sl (.int .u8)))), (7, (.pvar 304 [])), (17, (.row 401)), (18, (.d cI))], [(304, (.d cModel))], [(401, cVal, true)], 402⟩, xid := 4, oc := ⟨[], [0, 7, 17], [(.tmp 17, cVal)], [], [304], [], 401⟩, o := ⟨[(0, (.d (.sl (.int .u8)))), (7, (.pvar 304 [])), (17, (.row 401))], [(304, (.d cModel))], [(401, cVal, true)], 402⟩, rc := ⟨[], [], [], [], [401], [], 401⟩, r := ⟨[], [], [], 401⟩, F := flotsamlaw24_ModelGraph_l2 }
noncomputable def flotsamlaw24_ModelGraph_L3 : LoopSum := { hc := ⟨[], [0, 7, 17, 19, 20, 21, 23], [], [], [304, 690], [401, 434], 786⟩, h := ⟨[(0, (.d (.sl (.int .u8)))), (7, (.pvar 304 [])), (17, (.row 401)), (19, (.row 434)), (20, (.d cI)), (21, (.pvar 690 [])), (23, (.d cI))], [(304, (.d cModel)), (690, (.d cThing))], [(401, cVal, true), (434, cI, true)], 786⟩, xid := 8, oc := ⟨[], [0, 7, 17, 19, 20], [], [], [304], [401, 434], 786⟩, o := ⟨[(0, (.d (.sl (.int .u8)))), (7, (.pvar 304 [])), (17, (.row 401)), (19, (.row 434)), (20, (.d cI))], [(304, (.d cModel))], [(401, cVal, true), (434, cI, true)], 786⟩, rc := ⟨[], [6], [], [], [], [], 786⟩, r := ⟨[(6, (.d .bool))], [], [], 786⟩, F := flotsamlaw24_ModelGraph_l3 }
noncomputable def flotsamlaw24_ModelGraph_L4 : LoopSum := { hc := ⟨[], [0, 7, 17, 19, 20], [], [], [304], [401, 434], 482⟩, h := ⟨[(0, (.d (.sl (.int .u8)))), (7, (.pvar 304 [])), (17, (.row 401)), (19, (.row 434)), (20, (.d cI))], [(304, (.d cModel))], [(401, cVal, true), (434, cI, true)], 482⟩, xid := 6, oc := ⟨[], [0, 7, 17, 19], [], [], [304], [401, 434], 482⟩, o := ⟨[(0, (.d (.sl (.int .u8)))), (7, (.pvar 304 [])), (17, (.row 401)), (19, (.row 434))], [(304, (.d cModel))], [(401, cVal, true), (434, cI, true)], 482⟩, rc := ⟨[], [6], [], [], [], [], 482⟩, r := ⟨[(6, (.d .bool))], [], [], 482⟩, F := flotsamlaw24_ModelGraph_l4 }
noncomputable def flotsamlaw24_ModelGraph_L5 : LoopSum := { hc := ⟨[], [0, 7, 17, 19, 25], [], [], [304], [401, 434], 498⟩, h := ⟨[(0, (.d (.sl (.int .u8)))), (7, (.pvar 304 [])), (17, (.row 401)), (19, (.row 434)), (25, (.d cI))], [(304, (.d cModel))], [(401, cVal, true), (434, cI, true)], 498⟩, xid := 10, oc := ⟨[], [7, 17, 19], [], [], [304], [401, 434], 498⟩, o := ⟨[(7, (.pvar 304 [])), (17, (.row 401)), (19, (.row 434))], [(304, (.d cModel))], [(401, cVal, true), (434, cI, true)], 498⟩, rc := ⟨[], [6], [], [], [], [], 498⟩, r := ⟨[(6, (.d .bool))], [], [], 498⟩, F := flotsamlaw24_ModelGraph_l5 }
noncomputable def flotsamlaw24_ModelGraph_S : List (Nat × Sum) := [(8, flotsamlaw24_awake_sm), (12, model_Get_sm), (14, model_Make_sm), (16, model_Set_sm), (23, flotsamref08_Ints_sm), (24, model_Reach_sm), (26, model_Kept_sm), (28, model_New_sm), (29, flotsamref08_In_sm)]
noncomputable def flotsamlaw24_ModelGraph_fl : List (Nat × Func) := []
noncomputable def flotsamlaw24_ModelGraph_es : List AE := [⟨8, 6, 0, 0, flotsamlaw24_ModelGraph_L0⟩, ⟨8, 6, 0, 2, flotsamlaw24_ModelGraph_L1⟩, ⟨8, 6, 0, 4, flotsamlaw24_ModelGraph_L2⟩, ⟨8, 6, 0, 8, flotsamlaw24_ModelGraph_L3⟩, ⟨8, 6, 0, 6, flotsamlaw24_ModelGraph_L4⟩, ⟨8, 6, 0, 10, flotsamlaw24_ModelGraph_L5⟩]
theorem flotsamlaw24_ModelGraph_den0 : (fun x => denStep TEv (look1 flotsamlaw24_ModelGraph_S) (look1 flotsamlaw24_ModelGraph_fl) (annOf flotsamlaw24_ModelGraph_es) 8 6 Go.Proofs.Try.f6.ntmps 0 (cat (bodyOf Go.Proofs.Try.f6) [true, true, true, false, true, false, false]) flotsamlaw24_ModelGraph_L0 x) = flotsamlaw24_ModelGraph_s0 := by kernel_rfl
theorem flotsamlaw24_ModelGraph_den1 : (fun x => denStep TEv (look1 flotsamlaw24_ModelGraph_S) (look1 flotsamlaw24_ModelGraph_fl) (annOf flotsamlaw24_ModelGraph_es) 8 6 Go.Proofs.Try.f6.ntmps 0 (cat (bodyOf Go.Proofs.Try.f6) [true, true, true, true, false, true, false, false]) flotsamlaw24_ModelGraph_L1 x) = flotsamlaw24_ModelGraph_s1 := by kernel_rfl
theorem flotsamlaw24_ModelGraph_den2 : (fun x => denStep TEv (look1 flotsamlaw24_ModelGraph_S) (look1 flotsamlaw24_ModelGraph_fl) (annOf flotsamlaw24_ModelGraph_es) 8 6 Go.Proofs.Try.f6.ntmps 0 (cat (bodyOf Go.Proofs.Try.f6) [true, true, true, true, true, true, false, true, false, false]) flotsamlaw24_ModelGraph_L2 x) = flotsamlaw24_ModelGraph_s2 := by kernel_rfl
theorem flotsamlaw24_ModelGraph_den3 : (fun x => denStep TEv (look1 flotsamlaw24_ModelGraph_S) (look1 flotsamlaw24_ModelGraph_fl) (annOf flotsamlaw24_ModelGraph_es) 8 6 Go.Proofs.Try.f6.ntmps 0 (cat (bodyOf Go.Proofs.Try.f6) [true, true, true, true, true, true, true, true, false, true, false, false, true, false, false, true, true, true, false, false]) flotsamlaw24_ModelGraph_L3 x) = flotsamlaw24_ModelGraph_s3 := by kernel_rfl
theorem flotsamlaw24_ModelGraph_den4 : (fun x => denStep TEv (look1 flotsamlaw24_ModelGraph_S) (look1 flotsamlaw24_ModelGraph_fl) (annOf flotsamlaw24_ModelGraph_es) 8 6 Go.Proofs.Try.f6.ntmps 0 (cat (bodyOf Go.Proofs.Try.f6) [true, true, true, true, true, true, true, true, false, true, false, false]) flotsamlaw24_ModelGraph_L4 x) = flotsamlaw24_ModelGraph_s4 := by kernel_rfl
theorem flotsamlaw24_ModelGraph_den5 : (fun x => denStep TEv (look1 flotsamlaw24_ModelGraph_S) (look1 flotsamlaw24_ModelGraph_fl) (annOf flotsamlaw24_ModelGraph_es) 8 6 Go.Proofs.Try.f6.ntmps 0 (cat (bodyOf Go.Proofs.Try.f6) [true, true, true, true, true, true, true, true, true, false, true, false, false]) flotsamlaw24_ModelGraph_L5 x) = flotsamlaw24_ModelGraph_s5 := by kernel_rfl
theorem flotsamlaw24_ModelGraph_den : (fun x => denFun TEv (look1 flotsamlaw24_ModelGraph_S) (look1 flotsamlaw24_ModelGraph_fl) (annOf flotsamlaw24_ModelGraph_es) 8 6 Go.Proofs.Try.f6 flotsamlaw24_ModelGraph_sm.a flotsamlaw24_ModelGraph_sm.r x) = flotsamlaw24_ModelGraph_sm.F := by kernel_rfl
theorem flotsamlaw24_ModelGraph_ok0 : AEok Go.Proofs.Try.prog TEv (look1 flotsamlaw24_ModelGraph_S) (look1 flotsamlaw24_ModelGraph_fl) (annOf flotsamlaw24_ModelGraph_es) ⟨8, 6, 0, 0, flotsamlaw24_ModelGraph_L0⟩ := aeok_of 9223372036854775808 Go.Proofs.Try.func6 (by kernel_rfl) flotsamlaw24_ModelGraph_den0 (by kernel_rfl)
theorem flotsamlaw24_ModelGraph_ok1 : AEok Go.Proofs.Try.prog TEv (look1 flotsamlaw24_ModelGraph_S) (look1 flotsamlaw24_ModelGraph_fl) (annOf flotsamlaw24_ModelGraph_es) ⟨8, 6, 0, 2, flotsamlaw24_ModelGraph_L1⟩ := aeok_of 9223372036854775808 Go.Proofs.Try.func6 (by kernel_rfl) flotsamlaw24_ModelGraph_den1 (by kernel_rfl)
theorem flotsamlaw24_ModelGraph_ok2 : AEok Go.Proofs.Try.prog TEv (look1 flotsamlaw24_ModelGraph_S) (look1 flotsamlaw24_ModelGraph_fl) (annOf flotsamlaw24_ModelGraph_es) ⟨8, 6, 0, 4, flotsamlaw24_ModelGraph_L2⟩ := aeok_of 9223372036854775808 Go.Proofs.Try.func6 (by kernel_rfl) flotsamlaw24_ModelGraph_den2 (by kernel_rfl)
theorem flotsamlaw24_ModelGraph_ok3 : AEok Go.Proofs.Try.prog TEv (look1 flotsamlaw24_ModelGraph_S) (look1 flotsamlaw24_ModelGraph_fl) (annOf flotsamlaw24_ModelGraph_es) ⟨8, 6, 0, 8, flotsamlaw24_ModelGraph_L3⟩ := aeok_of 9223372036854775808 Go.Proofs.Try.func6 (by kernel_rfl) flotsamlaw24_ModelGraph_den3 (by kernel_rfl)
theorem flotsamlaw24_ModelGraph_ok4 : AEok Go.Proofs.Try.prog TEv (look1 flotsamlaw24_ModelGraph_S) (look1 flotsamlaw24_ModelGraph_fl) (annOf flotsamlaw24_ModelGraph_es) ⟨8, 6, 0, 6, flotsamlaw24_ModelGraph_L4⟩ := aeok_of 9223372036854775808 Go.Proofs.Try.func6 (by kernel_rfl) flotsamlaw24_ModelGraph_den4 (by kernel_rfl)
theorem flotsamlaw24_ModelGraph_ok5 : AEok Go.Proofs.Try.prog TEv (look1 flotsamlaw24_ModelGraph_S) (look1 flotsamlaw24_ModelGraph_fl) (annOf flotsamlaw24_ModelGraph_es) ⟨8, 6, 0, 10, flotsamlaw24_ModelGraph_L5⟩ := aeok_of 9223372036854775808 Go.Proofs.Try.func6 (by kernel_rfl) flotsamlaw24_ModelGraph_den5 (by kernel_rfl)
theorem flotsamlaw24_ModelGraph_sem : SemOf Go.Proofs.Try.prog 6 flotsamlaw24_ModelGraph_sm :=
  semMk teOk (sl := flotsamlaw24_ModelGraph_S) (all_cons flotsamlaw24_awake_sem (all_cons model_Get_sem (all_cons model_Make_sem (all_cons model_Set_sem (all_cons flotsamref08_Ints_sem (all_cons model_Reach_sem (all_cons model_Kept_sem (all_cons model_New_sem (all_cons flotsamref08_In_sem all_nil))))))))) (fl := flotsamlaw24_ModelGraph_fl) (all_nil) (es := flotsamlaw24_ModelGraph_es) Go.Proofs.Try.func6 (by kernel_rfl) rfl (rng_none (by kernel_rfl) (by kernel_rfl)) (all_cons flotsamlaw24_ModelGraph_ok0 (all_cons flotsamlaw24_ModelGraph_ok1 (all_cons flotsamlaw24_ModelGraph_ok2 (all_cons flotsamlaw24_ModelGraph_ok3 (all_cons flotsamlaw24_ModelGraph_ok4 (all_cons flotsamlaw24_ModelGraph_ok5 (all_nil))))))) rfl flotsamlaw24_ModelGraph_den

/-! ### flotsam/flotsamlaw24.ModelKeeps -/
def flotsamlaw24_ModelKeeps_s0r (v1 : Int) (v2 : Int) (v4 : List Int) (v12 : Int) (c0 : Model) (c16 : Val) (c256_0 : Int) (c256_1 : (List (List Val)) × Unit) (r336 : List Thing) : Option (SRes (.cons cI (.cons cI (.cons (.sl cI) (.cons cI (.cons cModel (.cons cVal (.cons cI (.cons (.cons (.sl (.sl cVal)) .nil) (.cons (.sl cThing) .nil))))))))) (.cons cI (.cons cI (.cons (.sl cI) (.cons cModel (.cons cVal (.cons cI (.cons (.cons (.sl (.sl cVal)) .nil) (.cons (.sl cThing) .nil)))))))) .nil) :=
  bif decide (v12 < (c0.2.1.length : Int)) then
    bif decide (0 ≤ v12) then
      bif decide (v12 < (c0.2.1.length : Int)) then
        bif decide (0 ≤ v12) then
          bif decide (v12 < (c0.2.1.length : Int)) then
            bif decide ((0 + (c0.2.1.getD v12.toNat (0, [], ())).2.1.length) * 16 ≤ 140737488355328) then
              bif decide ((r336.length + 1) * 32 ≤ 140737488355328) then
                some (.next (v1, v2, v4, wi64 (v12 + 1), c0, c16, c256_0, c256_1, r336 ++ [((c0.2.1.getD v12.toNat (0, [], ())).1, (c0.2.1.getD v12.toNat (0, [], ())).2.1, ())], ()))
              else none
            else none
          else none
        else none
      else none
    else none
  else
  some (.fin (.out (v1, v2, v4, c0, c16, c256_0, c256_1, r336, ())))
def flotsamlaw24_ModelKeeps_s0 (x : Int × Int × (List Int) × Int × Model × Val × Int × ((List (List Val)) × Unit) × (List Thing) × Unit) : Option (SRes (.cons cI (.cons cI (.cons (.sl cI) (.cons cI (.cons cModel (.cons cVal (.cons cI (.cons (.cons (.sl (.sl cVal)) .nil) (.cons (.sl cThing) .nil))))))))) (.cons cI (.cons cI (.cons (.sl cI) (.cons cModel (.cons cVal (.cons cI (.cons (.cons (.sl (.sl cVal)) .nil) (.cons (.sl cThing) .nil)))))))) .nil) := flotsamlaw24_ModelKeeps_s0r x.1 x.2.1 x.2.2.1 x.2.2.2.1 x.2.2.2.2.1 x.2.2.2.2.2.1 x.2.2.2.2.2.2.1 x.2.2.2.2.2.2.2.1 x.2.2.2.2.2.2.2.2.1
def flotsamlaw24_ModelKeeps_l0 (x : Int × Int × (List Int) × Int × Model × Val × Int × ((List (List Val)) × Unit) × (List Thing) × Unit) : Option (LRes (.cons cI (.cons cI (.cons (.sl cI) (.cons cModel (.cons cVal (.cons cI (.cons (.cons (.sl (.sl cVal)) .nil) (.cons (.sl cThing) .nil)))))))) .nil) := iterL (h := (.cons cI (.cons cI (.cons (.sl cI) (.cons cI (.cons cModel (.cons cVal (.cons cI (.cons (.cons (.sl (.sl cVal)) .nil) (.cons (.sl cThing) .nil)))))))))) (o := (.cons cI (.cons cI (.cons (.sl cI) (.cons cModel (.cons cVal (.cons cI (.cons (.cons (.sl (.sl cVal)) .nil) (.cons (.sl cThing) .nil))))))))) (r := .nil) flotsamlaw24_ModelKeeps_s0 9223372036854775808 x
def flotsamlaw24_ModelKeeps_r (a0 : Model) (a1 : Int) (a2 : Int) (a3 : Val) (a4 : List Int) : Option (Bool × Unit) :=
  (flotsamlaw24_awake ()).bind fun y1 =>
  bif !y1.1 then
    (flotsamlaw24_awake ()).bind fun y2 =>
    some (y2.1, ())
  else
  (flotsamlaw24_fits (a0, ())).bind fun y3 =>
  bif !y3.1 then
    (flotsamlaw24_awake ()).bind fun y4 =>
    some (y4.1, ())
  else
  bif decide ((a4.length : Int) > 50) then
    (flotsamlaw24_awake ()).bind fun y5 =>
    some (y5.1, ())
  else
  (flotsamlaw24_ModelKeeps_l0 (a1, a2, a4, 0, a0, a3, a0.1, a0.2.2, [], ())).bind fun s6 => match s6 with
  | .out s6 =>
    (model_Set ((s6.2.2.2.2.2.1, s6.2.2.2.2.2.2.2.1, s6.2.2.2.2.2.2.1), s6.1, s6.2.1, s6.2.2.2.2.1, ())).bind fun y7 =>
    (model_Make ((s6.2.2.2.2.2.1, s6.2.2.2.2.2.2.2.1, s6.2.2.2.2.2.2.1), 3, ())).bind fun y8 =>
    (model_Kept ((s6.2.2.2.2.2.1, s6.2.2.2.2.2.2.2.1, s6.2.2.2.2.2.2.1), s6.2.2.1, ())).bind fun y9 =>
    (model_Reach ((s6.2.2.2.2.2.1, s6.2.2.2.2.2.2.2.1, s6.2.2.2.2.2.2.1), [s6.2.2.2.2.1], ())).bind fun y10 =>
    (flotsamref24_Same ((s6.2.2.2.2.2.1, s6.2.2.2.2.2.2.2.1, s6.2.2.2.2.2.2.1), s6.2.2.2.1, ())).bind fun y11 =>
    some (y11.1, ())
  | .ret s6 =>
    none
def flotsamlaw24_ModelKeeps (x : Model × Int × Int × Val × (List Int) × Unit) : Option (Bool × Unit) := flotsamlaw24_ModelKeeps_r x.1 x.2.1 x.2.2.1 x.2.2.2.1 x.2.2.2.2.1
noncomputable def flotsamlaw24_ModelKeeps_sm : Sum := ⟨(.cons cModel (.cons cI (.cons cI (.cons cVal (.cons (.sl cI) .nil))))), (.cons (.d .bool) .nil), flotsamlaw24_ModelKeeps⟩
noncomputable def flotsamlaw24_ModelKeeps_L0 : LoopSum := { hc := ⟨[], [1, 2, 4, 5, 8, 11, 12], [(.key 256 [.fld 1], cThing)], [], [0, 16, 256], [], 336⟩, h := ⟨[(1, (.d cI)), (2, (.d cI)), (4, (.d (.sl cI))), (5, (.pvar 0 [])), (8, (.pvar 16 [])), (11, (.pvar 256 [])), (12, (.d cI))], [(0, (.d cModel)), (16, (.d cVal)), (256, (.cons (.d cI) (.cons (.row 336) (.d (.cons (.sl (.sl cVal)) .nil)))))], [(336, cThing, true)], 337⟩, xid := 0, oc := ⟨[], [1, 2, 4, 5, 8, 11], [(.ptr 11 [.fld 1], cThing)], [], [0, 16, 256], [], 336⟩, o := ⟨[(1, (.d cI)), (2, (.d cI)), (4, (.d (.sl cI))), (5, (.pvar 0 [])), (8, (.pvar 16 [])), (11, (.pvar 256 []))], [(0, (.d cModel)), (16, (.d cVal)), (256, (.cons (.d cI) (.cons (.row 336) (.d (.cons (.sl (.sl cVal)) .nil)))))], [(336, cThing, true)], 337⟩, rc := ⟨[], [], [], [], [336], [], 336⟩, r := ⟨[], [], [], 336⟩, F := flotsamlaw24_ModelKeeps_l0 }
noncomputable def flotsamlaw24_ModelKeeps_S : List (Nat × Sum) := [(8, flotsamlaw24_awake_sm), (14, model_Make_sm), (16, model_Set_sm), (19, flotsamref24_Same_sm), (20, flotsamlaw24_fits_sm), (24, model_Reach_sm), (26, model_Kept_sm)]
noncomputable def flotsamlaw24_ModelKeeps_fl : List (Nat × Func) := []
noncomputable def flotsamlaw24_ModelKeeps_es : List AE := [⟨8, 7, 0, 0, flotsamlaw24_ModelKeeps_L0⟩]
theorem flotsamlaw24_ModelKeeps_den0 : (fun x => denStep TEv (look1 flotsamlaw24_ModelKeeps_S) (look1 flotsamlaw24_ModelKeeps_fl) (annOf flotsamlaw24_ModelKeeps_es) 8 7 Go.Proofs.Try.f7.ntmps 0 (cat (bodyOf Go.Proofs.Try.f7) [true, true, true, true, false, true, false, false]) flotsamlaw24_ModelKeeps_L0 x) = flotsamlaw24_ModelKeeps_s0 := by kernel_rfl
theorem flotsamlaw24_ModelKeeps_den : (fun x => denFun TEv (look1 flotsamlaw24_ModelKeeps_S) (look1 flotsamlaw24_ModelKeeps_fl) (annOf flotsamlaw24_ModelKeeps_es) 8 7 Go.Proofs.Try.f7 flotsamlaw24_ModelKeeps_sm.a flotsamlaw24_ModelKeeps_sm.r x) = flotsamlaw24_ModelKeeps_sm.F := by kernel_rfl
theorem flotsamlaw24_ModelKeeps_ok0 : AEok Go.Proofs.Try.prog TEv (look1 flotsamlaw24_ModelKeeps_S) (look1 flotsamlaw24_ModelKeeps_fl) (annOf flotsamlaw24_ModelKeeps_es) ⟨8, 7, 0, 0, flotsamlaw24_ModelKeeps_L0⟩ := aeok_of 9223372036854775808 Go.Proofs.Try.func7 (by kernel_rfl) flotsamlaw24_ModelKeeps_den0 (by kernel_rfl)
theorem flotsamlaw24_ModelKeeps_sem : SemOf Go.Proofs.Try.prog 7 flotsamlaw24_ModelKeeps_sm :=
  semMk teOk (sl := flotsamlaw24_ModelKeeps_S) (all_cons flotsamlaw24_awake_sem (all_cons model_Make_sem (all_cons model_Set_sem (all_cons flotsamref24_Same_sem (all_cons flotsamlaw24_fits_sem (all_cons model_Reach_sem (all_cons model_Kept_sem all_nil))))))) (fl := flotsamlaw24_ModelKeeps_fl) (all_nil) (es := flotsamlaw24_ModelKeeps_es) Go.Proofs.Try.func7 (by kernel_rfl) rfl (rng_none (by kernel_rfl) (by kernel_rfl)) (all_cons flotsamlaw24_ModelKeeps_ok0 (all_nil)) rfl flotsamlaw24_ModelKeeps_den
end Go.Proofs.Ytdiogegolnoeoaa.Den
