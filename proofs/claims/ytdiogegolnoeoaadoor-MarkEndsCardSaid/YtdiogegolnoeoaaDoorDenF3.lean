/- What functions come to. Printed by a program of this session. -/
import Derived.Test.YtdiogegolnoeoaaDoorDenF2
namespace Go.Proofs.YtdiogegolnoeoaaDoor.Den
open Go
set_option maxRecDepth 100000
set_option linter.unusedVariables false
/-! ### flotsam/flotsamref01.Get -/
def flotsamref01_Get_r (a0 : Int) : Option (Val × Unit) :=
  bif a0 == 0 then
    some ((0, 0, ()), ())
  else
  bif (a0.tmod 2) == 1 then
    some ((1, wi64 (wu64 (a0.tdiv 2)), ()), ())
  else
  some ((2, wi64 (wu64 ((wu64 (a0.tdiv 2)) - 1)), ()), ())
def flotsamref01_Get (x : Int × Unit) : Option (Val × Unit) := flotsamref01_Get_r x.1
noncomputable def flotsamref01_Get_sm : Sum := ⟨(.cons (.int .u64) .nil), (.cons (.cons (.d cI) (.cons (.d cI) .nil)) .nil), flotsamref01_Get⟩
noncomputable def flotsamref01_Get_S : List (Nat × Sum) := []
noncomputable def flotsamref01_Get_fl : List (Nat × Func) := []
noncomputable def flotsamref01_Get_es : List AE := []
theorem flotsamref01_Get_den : (fun x => denFun TEv (look1 flotsamref01_Get_S) (look1 flotsamref01_Get_fl) (annOf flotsamref01_Get_es) 8 72 Go.Proofs.Tryd.f72 flotsamref01_Get_sm.a flotsamref01_Get_sm.r x) = flotsamref01_Get_sm.F := by kernel_rfl
theorem flotsamref01_Get_sem : SemOf Go.Proofs.Tryd.prog 72 flotsamref01_Get_sm :=
  semMk teOk (sl := flotsamref01_Get_S) (all_nil) (fl := flotsamref01_Get_fl) (all_nil) (es := flotsamref01_Get_es) Go.Proofs.Tryd.func72 (by kernel_rfl) rfl (rng_none (by kernel_rfl) (by kernel_rfl)) (all_nil) rfl flotsamref01_Get_den

/-! ### flotsam/flotsamref08.Field -/
def flotsamref08_Field_r (a0 : Heap) (a1 : Int) (a2 : Int) : Option (Val × Int × Unit) :=
  (flotsamref08_Get (a0, a1, ())).bind fun y1 =>
  bif !y1.2.1 then
    some ((0, 0, ()), 1, ())
  else
  bif decide (a2 < 0) then
    some ((0, 0, ()), 4, ())
  else
  bif decide (a2 ≥ y1.1.2.2.2.1) then
    some ((0, 0, ()), 4, ())
  else
  bif decide (0 ≤ (wi64 ((wi64 (a1 + 1)) + a2))) then
    bif decide ((wi64 ((wi64 (a1 + 1)) + a2)) < (a0.1.length : Int)) then
      (flotsamref01_Get (a0.1.getD (wi64 ((wi64 (a1 + 1)) + a2)).toNat 0, ())).bind fun y2 =>
      some ((y2.1.1, y2.1.2.1, ()), 0, ())
    else none
  else none
def flotsamref08_Field (x : Heap × Val) : Option (Val × Int × Unit) := flotsamref08_Field_r x.1 x.2.1 x.2.2.1
noncomputable def flotsamref08_Field_sm : Sum := ⟨(.cons cHeap cVal), (.cons (.cons (.d cI) (.cons (.d cI) .nil)) (.cons (.d cI) .nil)), flotsamref08_Field⟩
noncomputable def flotsamref08_Field_S : List (Nat × Sum) := [(33, flotsamref08_Get_sm), (72, flotsamref01_Get_sm)]
noncomputable def flotsamref08_Field_fl : List (Nat × Func) := []
noncomputable def flotsamref08_Field_es : List AE := []
theorem flotsamref08_Field_den : (fun x => denFun TEv (look1 flotsamref08_Field_S) (look1 flotsamref08_Field_fl) (annOf flotsamref08_Field_es) 8 40 Go.Proofs.Tryd.f40 flotsamref08_Field_sm.a flotsamref08_Field_sm.r x) = flotsamref08_Field_sm.F := by kernel_rfl
theorem flotsamref08_Field_sem : SemOf Go.Proofs.Tryd.prog 40 flotsamref08_Field_sm :=
  semMk teOk (sl := flotsamref08_Field_S) (all_cons flotsamref08_Get_sem (all_cons flotsamref01_Get_sem all_nil)) (fl := flotsamref08_Field_fl) (all_nil) (es := flotsamref08_Field_es) Go.Proofs.Tryd.func40 (by kernel_rfl) rfl (rng_none (by kernel_rfl) (by kernel_rfl)) (all_nil) rfl flotsamref08_Field_den

/-! ### flotsam/flotsamref01.May -/
def flotsamref01_May_r (a0 : Val) : Option (Bool × Unit) :=
  bif a0.1 == 0 then
    some (a0.2.1 == 0, ())
  else
  bif a0.1 == 1 then
    some (decide (a0.2.1 ≥ 0), ())
  else
  bif a0.1 == 2 then
    bif decide (a0.2.1 ≥ 0) then
      some (decide (a0.2.1 < 9223372036854775807), ())
    else
    some (false, ())
  else
  some (false, ())
def flotsamref01_May (x : Val × Unit) : Option (Bool × Unit) := flotsamref01_May_r x.1
noncomputable def flotsamref01_May_sm : Sum := ⟨(.cons cVal .nil), (.cons (.d .bool) .nil), flotsamref01_May⟩
noncomputable def flotsamref01_May_S : List (Nat × Sum) := []
noncomputable def flotsamref01_May_fl : List (Nat × Func) := []
noncomputable def flotsamref01_May_es : List AE := []
theorem flotsamref01_May_den : (fun x => denFun TEv (look1 flotsamref01_May_S) (look1 flotsamref01_May_fl) (annOf flotsamref01_May_es) 8 120 Go.Proofs.Tryd.f120 flotsamref01_May_sm.a flotsamref01_May_sm.r x) = flotsamref01_May_sm.F := by kernel_rfl
theorem flotsamref01_May_sem : SemOf Go.Proofs.Tryd.prog 120 flotsamref01_May_sm :=
  semMk teOk (sl := flotsamref01_May_S) (all_nil) (fl := flotsamref01_May_fl) (all_nil) (es := flotsamref01_May_es) Go.Proofs.Tryd.func120 (by kernel_rfl) rfl (rng_none (by kernel_rfl) (by kernel_rfl)) (all_nil) rfl flotsamref01_May_den

/-! ### flotsam/flotsamref08.with -/
def flotsamref08_with_s0r (v1 : Int) (v2 : Int) (v8 : Int) (c0 : Heap) (c16 : Bool × Unit) (c80 : Bool × Unit) (r176 : List Span) (r240 : List Int) : Option (SRes (.cons cI (.cons (.int .u64) (.cons cI (.cons cHeap (.cons (.cons .bool .nil) (.cons (.cons .bool .nil) (.cons (.sl cSpan) (.cons (.sl (.int .u64)) .nil)))))))) (.cons (.cons .bool .nil) (.cons (.cons .bool .nil) (.cons (.sl cSpan) (.cons (.sl (.int .u64)) .nil)))) .nil) :=
  bif decide (v8 < (c0.1.length : Int)) then
    bif decide (0 ≤ v8) then
      bif decide (v8 < (c0.1.length : Int)) then
        bif v8 == v1 then
          bif decide ((r240.length + 1) * 8 ≤ 140737488355328) then
            some (.next (v1, v2, wi64 (v8 + 1), c0, c16, c80, r176, r240 ++ [v2], ()))
          else none
        else
        bif decide ((r240.length + 1) * 8 ≤ 140737488355328) then
          some (.next (v1, v2, wi64 (v8 + 1), c0, c16, c80, r176, r240 ++ [c0.1.getD v8.toNat 0], ()))
        else none
      else none
    else none
  else
  some (.fin (.out (c16, c80, r176, r240, ())))
def flotsamref08_with_s0 (x : Int × Int × Int × Heap × (Bool × Unit) × (Bool × Unit) × (List Span) × (List Int) × Unit) : Option (SRes (.cons cI (.cons (.int .u64) (.cons cI (.cons cHeap (.cons (.cons .bool .nil) (.cons (.cons .bool .nil) (.cons (.sl cSpan) (.cons (.sl (.int .u64)) .nil)))))))) (.cons (.cons .bool .nil) (.cons (.cons .bool .nil) (.cons (.sl cSpan) (.cons (.sl (.int .u64)) .nil)))) .nil) := flotsamref08_with_s0r x.1 x.2.1 x.2.2.1 x.2.2.2.1 x.2.2.2.2.1 x.2.2.2.2.2.1 x.2.2.2.2.2.2.1 x.2.2.2.2.2.2.2.1
def flotsamref08_with_l0 (x : Int × Int × Int × Heap × (Bool × Unit) × (Bool × Unit) × (List Span) × (List Int) × Unit) : Option (LRes (.cons (.cons .bool .nil) (.cons (.cons .bool .nil) (.cons (.sl cSpan) (.cons (.sl (.int .u64)) .nil)))) .nil) := iterL (h := (.cons cI (.cons (.int .u64) (.cons cI (.cons cHeap (.cons (.cons .bool .nil) (.cons (.cons .bool .nil) (.cons (.sl cSpan) (.cons (.sl (.int .u64)) .nil))))))))) (o := (.cons (.cons .bool .nil) (.cons (.cons .bool .nil) (.cons (.sl cSpan) (.cons (.sl (.int .u64)) .nil))))) (r := .nil) flotsamref08_with_s0 9223372036854775808 x
def flotsamref08_with_r (a0 : Heap) (a1 : Int) (a2 : Int) : Option (Heap × Unit) :=
  bif decide (a0.2.1.length * 24 ≤ 140737488355328) then
    (flotsamref08_with_l0 (a1, a2, 0, a0, (false, ()), (a0.2.2.1, ()), a0.2.1, [], ())).bind fun s1 => match s1 with
    | .out s1 =>
      some ((s1.2.2.2.1, s1.2.2.1, s1.2.1), ())
    | .ret s1 =>
      none
  else none
def flotsamref08_with (x : Heap × Int × Int × Unit) : Option (Heap × Unit) := flotsamref08_with_r x.1 x.2.1 x.2.2.1
noncomputable def flotsamref08_with_sm : Sum := ⟨(.cons cHeap (.cons cI (.cons (.int .u64) .nil))), (.cons (.cons (.own (.int .u64)) (.cons (.own cSpan) (.d (.cons .bool .nil)))) .nil), flotsamref08_with⟩
noncomputable def flotsamref08_with_L0 : LoopSum := { hc := ⟨[], [1, 2, 3, 6, 7, 8], [(.key 80 [.fld 0], (.int .u64))], [], [0, 16, 80], [176], 240⟩, h := ⟨[(1, (.d cI)), (2, (.d (.int .u64))), (3, (.pvar 0 [])), (6, (.pvar 16 [])), (7, (.pvar 80 [])), (8, (.d cI))], [(0, (.d cHeap)), (16, (.cons .nilsl (.cons .nilsl (.d (.cons .bool .nil))))), (80, (.cons (.row 240) (.cons (.row 176) (.d (.cons .bool .nil)))))], [(176, cSpan, true), (240, (.int .u64), true)], 241⟩, xid := 0, oc := ⟨[], [6, 7], [(.ptr 7 [.fld 0], (.int .u64))], [], [16, 80], [176], 240⟩, o := ⟨[(6, (.pvar 16 [])), (7, (.pvar 80 []))], [(16, (.cons .nilsl (.cons .nilsl (.d (.cons .bool .nil))))), (80, (.cons (.row 240) (.cons (.row 176) (.d (.cons .bool .nil)))))], [(176, cSpan, true), (240, (.int .u64), true)], 241⟩, rc := ⟨[], [], [], [], [240], [], 240⟩, r := ⟨[], [], [], 240⟩, F := flotsamref08_with_l0 }
noncomputable def flotsamref08_with_S : List (Nat × Sum) := []
noncomputable def flotsamref08_with_fl : List (Nat × Func) := []
noncomputable def flotsamref08_with_es : List AE := [⟨8, 121, 0, 0, flotsamref08_with_L0⟩]
theorem flotsamref08_with_den0 : (fun x => denStep TEv (look1 flotsamref08_with_S) (look1 flotsamref08_with_fl) (annOf flotsamref08_with_es) 8 121 Go.Proofs.Tryd.f121.ntmps 0 (cat (bodyOf Go.Proofs.Tryd.f121) [true, true, true, false, true, false, false]) flotsamref08_with_L0 x) = flotsamref08_with_s0 := by kernel_rfl
theorem flotsamref08_with_den : (fun x => denFun TEv (look1 flotsamref08_with_S) (look1 flotsamref08_with_fl) (annOf flotsamref08_with_es) 8 121 Go.Proofs.Tryd.f121 flotsamref08_with_sm.a flotsamref08_with_sm.r x) = flotsamref08_with_sm.F := by kernel_rfl
theorem flotsamref08_with_ok0 : AEok Go.Proofs.Tryd.prog TEv (look1 flotsamref08_with_S) (look1 flotsamref08_with_fl) (annOf flotsamref08_with_es) ⟨8, 121, 0, 0, flotsamref08_with_L0⟩ := aeok_of 9223372036854775808 Go.Proofs.Tryd.func121 (by kernel_rfl) flotsamref08_with_den0 (by kernel_rfl)
theorem flotsamref08_with_sem : SemOf Go.Proofs.Tryd.prog 121 flotsamref08_with_sm :=
  semMk teOk (sl := flotsamref08_with_S) (all_nil) (fl := flotsamref08_with_fl) (all_nil) (es := flotsamref08_with_es) Go.Proofs.Tryd.func121 (by kernel_rfl) rfl (rng_none (by kernel_rfl) (by kernel_rfl)) (all_cons flotsamref08_with_ok0 (all_nil)) rfl flotsamref08_with_den

/-! ### flotsam/flotsamref01.Put -/
def flotsamref01_Put_r (a0 : Val) : Option (Int × Unit) :=
  bif a0.1 == 0 then
    some (0, ())
  else
  bif a0.1 == 1 then
    some (wu64 ((wu64 (2 * (wu64 a0.2.1))) + 1), ())
  else
  some (wu64 (2 * (wu64 ((wu64 a0.2.1) + 1))), ())
def flotsamref01_Put (x : Val × Unit) : Option (Int × Unit) := flotsamref01_Put_r x.1
noncomputable def flotsamref01_Put_sm : Sum := ⟨(.cons cVal .nil), (.cons (.d (.int .u64)) .nil), flotsamref01_Put⟩
noncomputable def flotsamref01_Put_S : List (Nat × Sum) := []
noncomputable def flotsamref01_Put_fl : List (Nat × Func) := []
noncomputable def flotsamref01_Put_es : List AE := []
theorem flotsamref01_Put_den : (fun x => denFun TEv (look1 flotsamref01_Put_S) (look1 flotsamref01_Put_fl) (annOf flotsamref01_Put_es) 8 122 Go.Proofs.Tryd.f122 flotsamref01_Put_sm.a flotsamref01_Put_sm.r x) = flotsamref01_Put_sm.F := by kernel_rfl
theorem flotsamref01_Put_sem : SemOf Go.Proofs.Tryd.prog 122 flotsamref01_Put_sm :=
  semMk teOk (sl := flotsamref01_Put_S) (all_nil) (fl := flotsamref01_Put_fl) (all_nil) (es := flotsamref01_Put_es) Go.Proofs.Tryd.func122 (by kernel_rfl) rfl (rng_none (by kernel_rfl) (by kernel_rfl)) (all_nil) rfl flotsamref01_Put_den

/-! ### flotsam/flotsamref08.Set -/
def flotsamref08_Set_r (a0 : Heap) (a1 : Int) (a2 : Int) (a3 : Val) : Option (Heap × Int × Unit) :=
  (flotsamref08_Field (a0, a1, a2, ())).bind fun y1 =>
  bif y1.2.1 != 0 then
    some (a0, y1.2.1, ())
  else
  (flotsamref01_May (a3, ())).bind fun y2 =>
  bif !y2.1 then
    some (a0, 1, ())
  else
  (flotsamref01_Put (a3, ())).bind fun y3 =>
  (flotsamref08_with (a0, wi64 ((wi64 (a1 + 1)) + a2), y3.1, ())).bind fun y4 =>
  some ((y4.1.1, y4.1.2.1, y4.1.2.2), 0, ())
def flotsamref08_Set (x : Heap × Int × Int × Val × Unit) : Option (Heap × Int × Unit) := flotsamref08_Set_r x.1 x.2.1 x.2.2.1 x.2.2.2.1
noncomputable def flotsamref08_Set_sm : Sum := ⟨(.cons cHeap (.cons cI (.cons cI (.cons cVal .nil)))), (.cons (.d cHeap) (.cons (.d cI) .nil)), flotsamref08_Set⟩
noncomputable def flotsamref08_Set_S : List (Nat × Sum) := [(40, flotsamref08_Field_sm), (120, flotsamref01_May_sm), (121, flotsamref08_with_sm), (122, flotsamref01_Put_sm)]
noncomputable def flotsamref08_Set_fl : List (Nat × Func) := []
noncomputable def flotsamref08_Set_es : List AE := []
theorem flotsamref08_Set_den : (fun x => denFun TEv (look1 flotsamref08_Set_S) (look1 flotsamref08_Set_fl) (annOf flotsamref08_Set_es) 8 102 Go.Proofs.Tryd.f102 flotsamref08_Set_sm.a flotsamref08_Set_sm.r x) = flotsamref08_Set_sm.F := by kernel_rfl
theorem flotsamref08_Set_sem : SemOf Go.Proofs.Tryd.prog 102 flotsamref08_Set_sm :=
  semMk teOk (sl := flotsamref08_Set_S) (all_cons flotsamref08_Field_sem (all_cons flotsamref01_May_sem (all_cons flotsamref08_with_sem (all_cons flotsamref01_Put_sem all_nil)))) (fl := flotsamref08_Set_fl) (all_nil) (es := flotsamref08_Set_es) Go.Proofs.Tryd.func102 (by kernel_rfl) rfl (rng_none (by kernel_rfl) (by kernel_rfl)) (all_nil) rfl flotsamref08_Set_den

/-! ### flotsam/flotsamref08.Linked -/
def flotsamref08_Linked_s0r (v1 : List (Int × Int × Val × Unit)) (v6 : Int) (c0 : Heap) (c16 : Bool × Unit) (r48 : List Int) : Option (SRes (.cons (.sl (.cons cI (.cons cI (.cons cVal .nil)))) (.cons cI (.cons cHeap (.cons (.cons .bool .nil) (.cons (.sl cI) .nil))))) (.cons cHeap (.cons (.cons .bool .nil) .nil)) .nil) :=
  bif decide (v6 < (v1.length : Int)) then
    bif decide ((r48.length : Int) > 0) then
      bif decide (0 ≤ v6) then
        bif decide (v6 < (v1.length : Int)) then
          bif (v1.getD v6.toNat (0, 0, (0, 0, ()), ())).2.2.1.1 == 2 then
            bif decide ((v1.getD v6.toNat (0, 0, (0, 0, ()), ())).2.2.1.2.1 ≥ 0) then
              bif (r48.length : Int) == 0 then none else
              bif decide (0 ≤ ((v1.getD v6.toNat (0, 0, (0, 0, ()), ())).2.2.1.2.1.tmod (r48.length : Int))) then
                bif decide (((v1.getD v6.toNat (0, 0, (0, 0, ()), ())).2.2.1.2.1.tmod (r48.length : Int)) < (r48.length : Int)) then
                  bif (r48.length : Int) == 0 then none else
                  bif decide (0 ≤ ((bif decide ((v1.getD v6.toNat (0, 0, (0, 0, ()), ())).1 < 0) then 0 else (v1.getD v6.toNat (0, 0, (0, 0, ()), ())).1).tmod (r48.length : Int))) then
                    bif decide (((bif decide ((v1.getD v6.toNat (0, 0, (0, 0, ()), ())).1 < 0) then 0 else (v1.getD v6.toNat (0, 0, (0, 0, ()), ())).1).tmod (r48.length : Int)) < (r48.length : Int)) then
                      (flotsamref08_Set (c0, r48.getD ((bif decide ((v1.getD v6.toNat (0, 0, (0, 0, ()), ())).1 < 0) then 0 else (v1.getD v6.toNat (0, 0, (0, 0, ()), ())).1).tmod (r48.length : Int)).toNat 0, (v1.getD v6.toNat (0, 0, (0, 0, ()), ())).2.1, ((v1.getD v6.toNat (0, 0, (0, 0, ()), ())).2.2.1.1, r48.getD ((v1.getD v6.toNat (0, 0, (0, 0, ()), ())).2.2.1.2.1.tmod (r48.length : Int)).toNat 0, (v1.getD v6.toNat (0, 0, (0, 0, ()), ())).2.2.1.2.2), ())).bind fun y2 =>
                      some (.next (v1, wi64 (v6 + 1), y2.1, c16, r48, ()))
                    else none
                  else none
                else none
              else none
            else
            bif (r48.length : Int) == 0 then none else
            bif decide (0 ≤ ((bif decide ((v1.getD v6.toNat (0, 0, (0, 0, ()), ())).1 < 0) then 0 else (v1.getD v6.toNat (0, 0, (0, 0, ()), ())).1).tmod (r48.length : Int))) then
              bif decide (((bif decide ((v1.getD v6.toNat (0, 0, (0, 0, ()), ())).1 < 0) then 0 else (v1.getD v6.toNat (0, 0, (0, 0, ()), ())).1).tmod (r48.length : Int)) < (r48.length : Int)) then
                (flotsamref08_Set (c0, r48.getD ((bif decide ((v1.getD v6.toNat (0, 0, (0, 0, ()), ())).1 < 0) then 0 else (v1.getD v6.toNat (0, 0, (0, 0, ()), ())).1).tmod (r48.length : Int)).toNat 0, (v1.getD v6.toNat (0, 0, (0, 0, ()), ())).2.1, (v1.getD v6.toNat (0, 0, (0, 0, ()), ())).2.2.1, ())).bind fun y3 =>
                some (.next (v1, wi64 (v6 + 1), y3.1, c16, r48, ()))
              else none
            else none
          else
          bif (r48.length : Int) == 0 then none else
          bif decide (0 ≤ ((bif decide ((v1.getD v6.toNat (0, 0, (0, 0, ()), ())).1 < 0) then 0 else (v1.getD v6.toNat (0, 0, (0, 0, ()), ())).1).tmod (r48.length : Int))) then
            bif decide (((bif decide ((v1.getD v6.toNat (0, 0, (0, 0, ()), ())).1 < 0) then 0 else (v1.getD v6.toNat (0, 0, (0, 0, ()), ())).1).tmod (r48.length : Int)) < (r48.length : Int)) then
              (flotsamref08_Set (c0, r48.getD ((bif decide ((v1.getD v6.toNat (0, 0, (0, 0, ()), ())).1 < 0) then 0 else (v1.getD v6.toNat (0, 0, (0, 0, ()), ())).1).tmod (r48.length : Int)).toNat 0, (v1.getD v6.toNat (0, 0, (0, 0, ()), ())).2.1, (v1.getD v6.toNat (0, 0, (0, 0, ()), ())).2.2.1, ())).bind fun y4 =>
              some (.next (v1, wi64 (v6 + 1), y4.1, c16, r48, ()))
            else none
          else none
        else none
      else none
    else
    some (.fin (.out (c0, c16, ())))
  else
  some (.fin (.out (c0, c16, ())))
def flotsamref08_Linked_s0 (x : (List (Int × Int × Val × Unit)) × Int × Heap × (Bool × Unit) × (List Int) × Unit) : Option (SRes (.cons (.sl (.cons cI (.cons cI (.cons cVal .nil)))) (.cons cI (.cons cHeap (.cons (.cons .bool .nil) (.cons (.sl cI) .nil))))) (.cons cHeap (.cons (.cons .bool .nil) .nil)) .nil) := flotsamref08_Linked_s0r x.1 x.2.1 x.2.2.1 x.2.2.2.1 x.2.2.2.2.1
def flotsamref08_Linked_l0 (x : (List (Int × Int × Val × Unit)) × Int × Heap × (Bool × Unit) × (List Int) × Unit) : Option (LRes (.cons cHeap (.cons (.cons .bool .nil) .nil)) .nil) := iterL (h := (.cons (.sl (.cons cI (.cons cI (.cons cVal .nil)))) (.cons cI (.cons cHeap (.cons (.cons .bool .nil) (.cons (.sl cI) .nil)))))) (o := (.cons cHeap (.cons (.cons .bool .nil) .nil))) (r := .nil) flotsamref08_Linked_s0 9223372036854775808 x
def flotsamref08_Linked_r (a0 : Heap) (a1 : List (Int × Int × Val × Unit)) : Option (Heap × Unit) :=
  (flotsamref08_List (a0, ())).bind fun y1 =>
  (flotsamref08_Linked_l0 (a1, 0, a0, (false, ()), y1.1, ())).bind fun s5 => match s5 with
  | .out s5 =>
    some (s5.1, ())
  | .ret s5 =>
    none
def flotsamref08_Linked (x : Heap × (List (Int × Int × Val × Unit)) × Unit) : Option (Heap × Unit) := flotsamref08_Linked_r x.1 x.2.1
noncomputable def flotsamref08_Linked_sm : Sum := ⟨(.cons cHeap (.cons (.sl (.cons cI (.cons cI (.cons cVal .nil)))) .nil)), (.cons (.d cHeap) .nil), flotsamref08_Linked⟩
noncomputable def flotsamref08_Linked_L0 : LoopSum := { hc := ⟨[], [1, 2, 4, 5, 6], [], [], [0, 16], [48], 96⟩, h := ⟨[(1, (.d (.sl (.cons cI (.cons cI (.cons cVal .nil)))))), (2, (.pvar 0 [])), (4, (.pvar 16 [])), (5, (.row 48)), (6, (.d cI))], [(0, (.d cHeap)), (16, (.cons .nilsl (.cons .nilsl (.d (.cons .bool .nil)))))], [(48, cI, true)], 96⟩, xid := 0, oc := ⟨[], [2, 4], [], [], [0, 16], [], 96⟩, o := ⟨[(2, (.pvar 0 [])), (4, (.pvar 16 []))], [(0, (.d cHeap)), (16, (.cons .nilsl (.cons .nilsl (.d (.cons .bool .nil)))))], [], 96⟩, rc := ⟨[], [], [], [], [96], [], 96⟩, r := ⟨[], [], [], 96⟩, F := flotsamref08_Linked_l0 }
noncomputable def flotsamref08_Linked_S : List (Nat × Sum) := [(15, flotsamref08_List_sm), (102, flotsamref08_Set_sm)]
noncomputable def flotsamref08_Linked_fl : List (Nat × Func) := []
noncomputable def flotsamref08_Linked_es : List AE := [⟨8, 78, 0, 0, flotsamref08_Linked_L0⟩]
theorem flotsamref08_Linked_den0 : (fun x => denStep TEv (look1 flotsamref08_Linked_S) (look1 flotsamref08_Linked_fl) (annOf flotsamref08_Linked_es) 8 78 Go.Proofs.Tryd.f78.ntmps 0 (cat (bodyOf Go.Proofs.Tryd.f78) [true, true, false, true, false, false]) flotsamref08_Linked_L0 x) = flotsamref08_Linked_s0 := by kernel_rfl
theorem flotsamref08_Linked_den : (fun x => denFun TEv (look1 flotsamref08_Linked_S) (look1 flotsamref08_Linked_fl) (annOf flotsamref08_Linked_es) 8 78 Go.Proofs.Tryd.f78 flotsamref08_Linked_sm.a flotsamref08_Linked_sm.r x) = flotsamref08_Linked_sm.F := by kernel_rfl
theorem flotsamref08_Linked_ok0 : AEok Go.Proofs.Tryd.prog TEv (look1 flotsamref08_Linked_S) (look1 flotsamref08_Linked_fl) (annOf flotsamref08_Linked_es) ⟨8, 78, 0, 0, flotsamref08_Linked_L0⟩ := aeok_of 9223372036854775808 Go.Proofs.Tryd.func78 (by kernel_rfl) flotsamref08_Linked_den0 (by kernel_rfl)
theorem flotsamref08_Linked_sem : SemOf Go.Proofs.Tryd.prog 78 flotsamref08_Linked_sm :=
  semMk teOk (sl := flotsamref08_Linked_S) (all_cons flotsamref08_List_sem (all_cons flotsamref08_Set_sem all_nil)) (fl := flotsamref08_Linked_fl) (all_nil) (es := flotsamref08_Linked_es) Go.Proofs.Tryd.func78 (by kernel_rfl) rfl (rng_none (by kernel_rfl) (by kernel_rfl)) (all_cons flotsamref08_Linked_ok0 (all_nil)) rfl flotsamref08_Linked_den

/-! ### flotsam/flotsamlaw15.small -/
def flotsamlaw15_small_r  : Option (Heap × Unit) :=
  (flotsamref07_Made (1, [(0, 0, 0, ()), (1, 0, 1, ()), (1, 0, 1, ()), (1, 0, 1, ())], ())).bind fun y1 =>
  (flotsamref08_Linked (y1.1, [(0, 0, (2, 1, ()), ()), (1, 0, (2, 0, ()), ()), (2, 0, (2, 0, ()), ())], ())).bind fun y2 =>
  some (y2.1, ())
def flotsamlaw15_small (x : Unit) : Option (Heap × Unit) := flotsamlaw15_small_r 
noncomputable def flotsamlaw15_small_sm : Sum := ⟨.nil, (.cons (.d cHeap) .nil), flotsamlaw15_small⟩
noncomputable def flotsamlaw15_small_S : List (Nat × Sum) := [(58, flotsamref07_Made_sm), (78, flotsamref08_Linked_sm)]
noncomputable def flotsamlaw15_small_fl : List (Nat × Func) := []
noncomputable def flotsamlaw15_small_es : List AE := []
theorem flotsamlaw15_small_den : (fun x => denFun TEv (look1 flotsamlaw15_small_S) (look1 flotsamlaw15_small_fl) (annOf flotsamlaw15_small_es) 8 50 Go.Proofs.Tryd.f50 flotsamlaw15_small_sm.a flotsamlaw15_small_sm.r x) = flotsamlaw15_small_sm.F := by kernel_rfl
theorem flotsamlaw15_small_sem : SemOf Go.Proofs.Tryd.prog 50 flotsamlaw15_small_sm :=
  semMk teOk (sl := flotsamlaw15_small_S) (all_cons flotsamref07_Made_sem (all_cons flotsamref08_Linked_sem all_nil)) (fl := flotsamlaw15_small_fl) (all_nil) (es := flotsamlaw15_small_es) Go.Proofs.Tryd.func50 (by kernel_rfl) rfl (rng_none (by kernel_rfl) (by kernel_rfl)) (all_nil) rfl flotsamlaw15_small_den

/-! ### flotsam/class.Blocks -/
def class_Blocks_r (a0 : Int) : Option (Int × Unit) :=
  (class_is (a0, ())).bind fun y1 =>
  bif !y1.1 then
    some (0, ())
  else
  bif decide (0 ≤ a0) then
    bif decide (a0 < 4) then
      bif (([2, 4, 8, 16] : List Int).getD a0.toNat 0) == 0 then none else
      some (wi64 ((32 : Int).tdiv (([2, 4, 8, 16] : List Int).getD a0.toNat 0)), ())
    else none
  else none
def class_Blocks (x : Int × Unit) : Option (Int × Unit) := class_Blocks_r x.1
noncomputable def class_Blocks_sm : Sum := ⟨(.cons cI .nil), (.cons (.d cI) .nil), class_Blocks⟩
noncomputable def class_Blocks_S : List (Nat × Sum) := [(87, class_is_sm)]
noncomputable def class_Blocks_fl : List (Nat × Func) := []
noncomputable def class_Blocks_es : List AE := []
theorem class_Blocks_den : (fun x => denFun TEv (look1 class_Blocks_S) (look1 class_Blocks_fl) (annOf class_Blocks_es) 8 116 Go.Proofs.Tryd.f116 class_Blocks_sm.a class_Blocks_sm.r x) = class_Blocks_sm.F := by kernel_rfl
theorem class_Blocks_sem : SemOf Go.Proofs.Tryd.prog 116 class_Blocks_sm :=
  semMk teOk (sl := class_Blocks_S) (all_cons class_is_sem all_nil) (fl := class_Blocks_fl) (all_nil) (es := class_Blocks_es) Go.Proofs.Tryd.func116 (by kernel_rfl) rfl (rng_none (by kernel_rfl) (by kernel_rfl)) (all_nil) rfl class_Blocks_den

/-! ### flotsam/object.List -/
def object_List_s0r (v3 : Int) (v10 : List Span) (v11 : Int) (v12 : Int) (v22 : Int) (v23 : Int) (c80 : Heap) (c273 : Span) (r433 : List Int) : Option (SRes (.cons cI (.cons (.sl cSpan) (.cons cI (.cons cI (.cons cI (.cons cI (.cons cHeap (.cons cSpan (.cons (.sl cI) .nil))))))))) (.cons (.sl cSpan) (.cons cI (.cons cI (.cons cHeap (.cons (.sl cI) .nil))))) .nil) :=
  bif decide (v23 < v22) then
    (class_Words (c273.2.1, ())).bind fun y2 =>
    (object_Get (c80, wi64 ((wi64 (v3 * 32)) + (wi64 (v23 * y2.1))), ())).bind fun y3 =>
    bif y3.2.1 then
      bif decide ((r433.length + 1) * 8 ≤ 140737488355328) then
        some (.next (v3, v10, v11, v12, v22, wi64 (v23 + 1), c80, c273, r433 ++ [wi64 ((wi64 (v3 * 32)) + (wi64 (v23 * y2.1)))], ()))
      else none
    else
    some (.next (v3, v10, v11, v12, v22, wi64 (v23 + 1), c80, c273, r433, ()))
  else
  some (.fin (.out (v10, v11, v12, c80, r433, ())))
def object_List_s0 (x : Int × (List Span) × Int × Int × Int × Int × Heap × Span × (List Int) × Unit) : Option (SRes (.cons cI (.cons (.sl cSpan) (.cons cI (.cons cI (.cons cI (.cons cI (.cons cHeap (.cons cSpan (.cons (.sl cI) .nil))))))))) (.cons (.sl cSpan) (.cons cI (.cons cI (.cons cHeap (.cons (.sl cI) .nil))))) .nil) := object_List_s0r x.1 x.2.1 x.2.2.1 x.2.2.2.1 x.2.2.2.2.1 x.2.2.2.2.2.1 x.2.2.2.2.2.2.1 x.2.2.2.2.2.2.2.1 x.2.2.2.2.2.2.2.2.1
def object_List_l0 (x : Int × (List Span) × Int × Int × Int × Int × Heap × Span × (List Int) × Unit) : Option (LRes (.cons (.sl cSpan) (.cons cI (.cons cI (.cons cHeap (.cons (.sl cI) .nil))))) .nil) := iterL (h := (.cons cI (.cons (.sl cSpan) (.cons cI (.cons cI (.cons cI (.cons cI (.cons cHeap (.cons cSpan (.cons (.sl cI) .nil)))))))))) (o := (.cons (.sl cSpan) (.cons cI (.cons cI (.cons cHeap (.cons (.sl cI) .nil)))))) (r := .nil) object_List_s0 9223372036854775808 x
def object_List_s1r (v10 : List Span) (v11 : Int) (v12 : Int) (c80 : Heap) (r208 : List Int) : Option (SRes (.cons (.sl cSpan) (.cons cI (.cons cI (.cons cHeap (.cons (.sl cI) .nil))))) (.cons (.sl cI) .nil) .nil) :=
  bif decide (v12 < v11) then
    bif decide (0 ≤ v12) then
      bif decide (v12 < (v10.length : Int)) then
        bif (v10.getD v12.toNat (0, 0, 0, ())).1 == 0 then
          some (.next (v10, v11, wi64 (v12 + 1), c80, r208, ()))
        else
        (class_Blocks ((v10.getD v12.toNat (0, 0, 0, ())).2.1, ())).bind fun y1 =>
        (object_List_l0 (v12, v10, v11, v12, y1.1, 0, c80, v10.getD v12.toNat (0, 0, 0, ()), r208, ())).bind fun s4 => match s4 with
        | .out s4 =>
          some (.next (s4.1, s4.2.1, wi64 (s4.2.2.1 + 1), s4.2.2.2.1, s4.2.2.2.2.1, ()))
        | .ret s4 =>
          none
      else none
    else none
  else
  some (.fin (.out (r208, ())))
def object_List_s1 (x : (List Span) × Int × Int × Heap × (List Int) × Unit) : Option (SRes (.cons (.sl cSpan) (.cons cI (.cons cI (.cons cHeap (.cons (.sl cI) .nil))))) (.cons (.sl cI) .nil) .nil) := object_List_s1r x.1 x.2.1 x.2.2.1 x.2.2.2.1 x.2.2.2.2.1
def object_List_l1 (x : (List Span) × Int × Int × Heap × (List Int) × Unit) : Option (LRes (.cons (.sl cI) .nil) .nil) := iterL (h := (.cons (.sl cSpan) (.cons cI (.cons cI (.cons cHeap (.cons (.sl cI) .nil)))))) (o := (.cons (.sl cI) .nil)) (r := .nil) object_List_s1 9223372036854775808 x
def object_List_r (a0 : Heap) : Option ((List Int) × Unit) :=
  (object_List_l1 (a0.2.1, (a0.2.1.length : Int), 0, a0, [], ())).bind fun s5 => match s5 with
  | .out s5 =>
    some (s5.1, ())
  | .ret s5 =>
    none
def object_List (x : Heap × Unit) : Option ((List Int) × Unit) := object_List_r x.1
noncomputable def object_List_sm : Sum := ⟨(.cons cHeap .nil), (.cons (.own cI) .nil), object_List⟩
noncomputable def object_List_L0 : LoopSum := { hc := ⟨[], [0, 1, 3, 4, 10, 11, 12, 22, 23], [(.key 32 [], cI)], [], [32, 80, 273], [], 433⟩, h := ⟨[(0, (.fn 70 (.cons (.pvar 32 []) .nil) .yld)), (1, (.pvar 80 [])), (3, (.d cI)), (4, (.pvar 273 [])), (10, (.d (.sl cSpan))), (11, (.d cI)), (12, (.d cI)), (22, (.d cI)), (23, (.d cI))], [(32, (.row 433)), (80, (.d cHeap)), (273, (.d cSpan))], [(433, cI, true)], 434⟩, xid := 2, oc := ⟨[], [0, 1, 10, 11, 12], [(.key 32 [], cI)], [], [32, 80], [], 433⟩, o := ⟨[(0, (.fn 70 (.cons (.pvar 32 []) .nil) .yld)), (1, (.pvar 80 [])), (10, (.d (.sl cSpan))), (11, (.d cI)), (12, (.d cI))], [(32, (.row 433)), (80, (.d cHeap))], [(433, cI, true)], 434⟩, rc := ⟨[], [], [], [], [433], [], 433⟩, r := ⟨[], [], [], 433⟩, F := object_List_l0 }
noncomputable def object_List_L1 : LoopSum := { hc := ⟨[], [0, 1, 10, 11, 12], [(.key 32 [], cI)], [], [32, 80], [], 208⟩, h := ⟨[(0, (.fn 70 (.cons (.pvar 32 []) .nil) .yld)), (1, (.pvar 80 [])), (10, (.d (.sl cSpan))), (11, (.d cI)), (12, (.d cI))], [(32, (.row 208)), (80, (.d cHeap))], [(208, cI, true)], 209⟩, xid := 0, oc := ⟨[], [], [(.key 32 [], cI)], [], [32], [], 208⟩, o := ⟨[], [(32, (.row 208))], [(208, cI, true)], 209⟩, rc := ⟨[], [], [], [], [208], [], 208⟩, r := ⟨[], [], [], 208⟩, F := object_List_l1 }
noncomputable def object_List_S : List (Nat × Sum) := [(53, object_Get_sm), (57, class_Words_sm), (116, class_Blocks_sm)]
noncomputable def object_List_fl : List (Nat × Func) := [(70, Go.Proofs.Tryd.f70), (99, Go.Proofs.Tryd.f99), (115, Go.Proofs.Tryd.f115)]
noncomputable def object_List_es : List AE := [⟨7, 115, 144, 2, object_List_L0⟩, ⟨7, 115, 144, 0, object_List_L1⟩]
theorem object_List_den0 : (fun x => denStep TEv (look1 object_List_S) (look1 object_List_fl) (annOf object_List_es) 7 115 Go.Proofs.Tryd.f115.ntmps 144 (cat (bodyOf Go.Proofs.Tryd.f115) [true, false, false, true, true, false, false, true, true, true, false, false]) object_List_L0 x) = object_List_s0 := by kernel_rfl
theorem object_List_den1 : (fun x => denStep TEv (look1 object_List_S) (look1 object_List_fl) (annOf object_List_es) 7 115 Go.Proofs.Tryd.f115.ntmps 144 (cat (bodyOf Go.Proofs.Tryd.f115) [true, false, false]) object_List_L1 x) = object_List_s1 := by kernel_rfl
theorem object_List_den : (fun x => denFun TEv (look1 object_List_S) (look1 object_List_fl) (annOf object_List_es) 8 70 Go.Proofs.Tryd.f70 object_List_sm.a object_List_sm.r x) = object_List_sm.F := by kernel_rfl
theorem object_List_ok0 : AEok Go.Proofs.Tryd.prog TEv (look1 object_List_S) (look1 object_List_fl) (annOf object_List_es) ⟨7, 115, 144, 2, object_List_L0⟩ := aeok_of 9223372036854775808 Go.Proofs.Tryd.func115 (by kernel_rfl) object_List_den0 (by kernel_rfl)
theorem object_List_ok1 : AEok Go.Proofs.Tryd.prog TEv (look1 object_List_S) (look1 object_List_fl) (annOf object_List_es) ⟨7, 115, 144, 0, object_List_L1⟩ := aeok_of 9223372036854775808 Go.Proofs.Tryd.func115 (by kernel_rfl) object_List_den1 (by kernel_rfl)
theorem object_List_sem : SemOf Go.Proofs.Tryd.prog 70 object_List_sm :=
  semMk teOk (sl := object_List_S) (all_cons object_Get_sem (all_cons class_Words_sem (all_cons class_Blocks_sem all_nil))) (fl := object_List_fl) (all_cons ⟨⟨Go.Proofs.Tryd.func70, by kernel_rfl⟩, rng_some [3] (by kernel_rfl) (by kernel_rfl)⟩ (all_cons ⟨⟨Go.Proofs.Tryd.func99, by kernel_rfl⟩, rng_none (by kernel_rfl) (by kernel_rfl)⟩ (all_cons ⟨⟨Go.Proofs.Tryd.func115, by kernel_rfl⟩, rng_none (by kernel_rfl) (by kernel_rfl)⟩ (all_nil)))) (es := object_List_es) Go.Proofs.Tryd.func70 (by kernel_rfl) rfl (rng_some [3] (by kernel_rfl) (by kernel_rfl)) (all_cons object_List_ok0 (all_cons object_List_ok1 (all_nil))) rfl object_List_den

/-! ### flotsam/object.Black -/
def object_Black_r (a0 : Heap) (a1 : Int) : Option (Bool × Unit) :=
  (object_Get (a0, a1, ())).bind fun y1 =>
  bif y1.2.1 then
    some (y1.1.2.1 == a0.2.2.1, ())
  else
  some (false, ())
def object_Black (x : Heap × Int × Unit) : Option (Bool × Unit) := object_Black_r x.1 x.2.1
noncomputable def object_Black_sm : Sum := ⟨(.cons cHeap (.cons cI .nil)), (.cons (.d .bool) .nil), object_Black⟩
noncomputable def object_Black_S : List (Nat × Sum) := [(53, object_Get_sm)]
noncomputable def object_Black_fl : List (Nat × Func) := []
noncomputable def object_Black_es : List AE := []
theorem object_Black_den : (fun x => denFun TEv (look1 object_Black_S) (look1 object_Black_fl) (annOf object_Black_es) 8 71 Go.Proofs.Tryd.f71 object_Black_sm.a object_Black_sm.r x) = object_Black_sm.F := by kernel_rfl
theorem object_Black_sem : SemOf Go.Proofs.Tryd.prog 71 object_Black_sm :=
  semMk teOk (sl := object_Black_S) (all_cons object_Get_sem all_nil) (fl := object_Black_fl) (all_nil) (es := object_Black_es) Go.Proofs.Tryd.func71 (by kernel_rfl) rfl (rng_none (by kernel_rfl) (by kernel_rfl)) (all_nil) rfl object_Black_den

/-! ### flotsam/reach.Black -/
def reach_Black_s0r (v7 : Int) (v8 : Int) (c0 : Heap) (r48 : List Int) : Option (SRes (.cons cI (.cons cI (.cons cHeap (.cons (.sl cI) .nil)))) (.cons cHeap (.cons (.sl cI) .nil)) (.cons cI (.cons cHeap (.cons (.sl cI) .nil)))) :=
  bif decide (v8 < v7) then
    bif decide (0 ≤ v8) then
      bif decide (v8 < (r48.length : Int)) then
        (object_Black (c0, r48.getD v8.toNat 0, ())).bind fun y2 =>
        bif !y2.1 then
          some (.fin (.ret (v8, c0, r48, ())))
        else
        some (.next (v7, wi64 (v8 + 1), c0, r48, ()))
      else none
    else none
  else
  some (.fin (.out (c0, r48, ())))
def reach_Black_s0 (x : Int × Int × Heap × (List Int) × Unit) : Option (SRes (.cons cI (.cons cI (.cons cHeap (.cons (.sl cI) .nil)))) (.cons cHeap (.cons (.sl cI) .nil)) (.cons cI (.cons cHeap (.cons (.sl cI) .nil)))) := reach_Black_s0r x.1 x.2.1 x.2.2.1 x.2.2.2.1
def reach_Black_l0 (x : Int × Int × Heap × (List Int) × Unit) : Option (LRes (.cons cHeap (.cons (.sl cI) .nil)) (.cons cI (.cons cHeap (.cons (.sl cI) .nil)))) := iterL (h := (.cons cI (.cons cI (.cons cHeap (.cons (.sl cI) .nil))))) (o := (.cons cHeap (.cons (.sl cI) .nil))) (r := (.cons cI (.cons cHeap (.cons (.sl cI) .nil)))) reach_Black_s0 9223372036854775808 x
def reach_Black_s1r (v5 : Int) (v6 : Int) (c0 : Heap) (r48 : List Int) : Option (SRes (.cons cI (.cons cI (.cons cHeap (.cons (.sl cI) .nil)))) cGrey .nil) :=
  bif decide (v6 < (r48.length : Int)) then
    bif decide (0 ≤ v6) then
      bif decide (v6 < (r48.length : Int)) then
        (object_Black (c0, r48.getD v6.toNat 0, ())).bind fun y4 =>
        bif !(!y4.1) then
          bif decide (0 ≤ v5) then
            bif decide (v5 < (r48.length : Int)) then
              some (.next (wi64 (v5 + 1), wi64 (v6 + 1), c0, r48.set v5.toNat (r48.getD v6.toNat 0), ()))
            else none
          else none
        else
        some (.next (v5, wi64 (v6 + 1), c0, r48, ()))
      else none
    else none
  else
  some (.fin (.out (v5, r48, ())))
def reach_Black_s1 (x : Int × Int × Heap × (List Int) × Unit) : Option (SRes (.cons cI (.cons cI (.cons cHeap (.cons (.sl cI) .nil)))) cGrey .nil) := reach_Black_s1r x.1 x.2.1 x.2.2.1 x.2.2.2.1
def reach_Black_l1 (x : Int × Int × Heap × (List Int) × Unit) : Option (LRes cGrey .nil) := iterL (h := (.cons cI (.cons cI (.cons cHeap (.cons (.sl cI) .nil))))) (o := cGrey) (r := .nil) reach_Black_s1 9223372036854775808 x
def reach_Black_r (a0 : Heap) : Option ((List Int) × Unit) :=
  (object_List (a0, ())).bind fun y1 =>
  (reach_Black_l0 ((y1.1.length : Int), 0, a0, y1.1, ())).bind fun s3 => match s3 with
  | .out s3 =>
    some (s3.2.1, ())
  | .ret s3 =>
    bif s3.1 == (-1) then
      some (s3.2.2.1, ())
    else
    (reach_Black_l1 (s3.1, wi64 (s3.1 + 1), s3.2.1, s3.2.2.1, ())).bind fun s5 => match s5 with
    | .out s5 =>
      bif decide (0 ≤ s5.1) then
        bif decide (s5.1 ≤ (s5.2.1.length : Int)) then
          bif decide ((s5.2.1.length : Int) ≤ (s5.2.1.length : Int)) then
            bif decide (0 ≤ s5.1) then
              bif decide (s5.1 ≤ ((segSet s5.2.1 s5.1.toNat (List.replicate ((s5.2.1.length : Int).toNat - s5.1.toNat) 0)).length : Int)) then
                some (((segSet s5.2.1 s5.1.toNat (List.replicate ((s5.2.1.length : Int).toNat - s5.1.toNat) 0)).drop 0).take (s5.1.toNat - 0), ())
              else none
            else none
          else none
        else none
      else none
    | .ret s5 =>
      none
def reach_Black (x : Heap × Unit) : Option ((List Int) × Unit) := reach_Black_r x.1
noncomputable def reach_Black_sm : Sum := ⟨(.cons cHeap .nil), (.cons (.d (.sl cI)) .nil), reach_Black⟩
noncomputable def reach_Black_L0 : LoopSum := { hc := ⟨[], [0, 1, 7, 8], [], [], [0], [48], 256⟩, h := ⟨[(0, (.row 48)), (1, (.fn 80 .nil (.cons (.pvar 0 []) .nil))), (7, (.d cI)), (8, (.d cI))], [(0, (.d cHeap))], [(48, cI, true)], 256⟩, xid := 0, oc := ⟨[], [], [], [], [0], [48], 256⟩, o := ⟨[], [(0, (.d cHeap))], [(48, cI, true)], 256⟩, rc := ⟨[], [4], [], [], [0], [48], 256⟩, r := ⟨[(4, (.d cI))], [(0, (.d cHeap))], [(48, cI, true)], 256⟩, F := reach_Black_l0 }
noncomputable def reach_Black_L1 : LoopSum := { hc := ⟨[], [0, 1, 5, 6], [], [], [0], [48], 336⟩, h := ⟨[(0, (.row 48)), (1, (.fn 80 .nil (.cons (.pvar 0 []) .nil))), (5, (.d cI)), (6, (.d cI))], [(0, (.d cHeap))], [(48, cI, true)], 336⟩, xid := 0, oc := ⟨[], [0, 5], [], [], [], [48], 336⟩, o := ⟨[(0, (.row 48)), (5, (.d cI))], [], [(48, cI, true)], 336⟩, rc := ⟨[], [], [], [], [336], [], 336⟩, r := ⟨[], [], [], 336⟩, F := reach_Black_l1 }
noncomputable def reach_Black_S : List (Nat × Sum) := [(70, object_List_sm), (71, object_Black_sm)]
noncomputable def reach_Black_fl : List (Nat × Func) := [(79, Go.Proofs.Tryd.f79), (80, Go.Proofs.Tryd.f80), (103, Go.Proofs.Tryd.f103)]
noncomputable def reach_Black_es : List AE := [⟨6, 103, 192, 0, reach_Black_L0⟩, ⟨7, 79, 112, 0, reach_Black_L1⟩]
theorem reach_Black_den0 : (fun x => denStep TEv (look1 reach_Black_S) (look1 reach_Black_fl) (annOf reach_Black_es) 6 103 Go.Proofs.Tryd.f103.ntmps 192 (cat (bodyOf Go.Proofs.Tryd.f103) [true, false, true, false, false]) reach_Black_L0 x) = reach_Black_s0 := by kernel_rfl
theorem reach_Black_den1 : (fun x => denStep TEv (look1 reach_Black_S) (look1 reach_Black_fl) (annOf reach_Black_es) 7 79 Go.Proofs.Tryd.f79.ntmps 112 (cat (bodyOf Go.Proofs.Tryd.f79) [true, true, true, false, true, false, false]) reach_Black_L1 x) = reach_Black_s1 := by kernel_rfl
theorem reach_Black_den : (fun x => denFun TEv (look1 reach_Black_S) (look1 reach_Black_fl) (annOf reach_Black_es) 8 51 Go.Proofs.Tryd.f51 reach_Black_sm.a reach_Black_sm.r x) = reach_Black_sm.F := by kernel_rfl
theorem reach_Black_ok0 : AEok Go.Proofs.Tryd.prog TEv (look1 reach_Black_S) (look1 reach_Black_fl) (annOf reach_Black_es) ⟨6, 103, 192, 0, reach_Black_L0⟩ := aeok_of 9223372036854775808 Go.Proofs.Tryd.func103 (by kernel_rfl) reach_Black_den0 (by kernel_rfl)
theorem reach_Black_ok1 : AEok Go.Proofs.Tryd.prog TEv (look1 reach_Black_S) (look1 reach_Black_fl) (annOf reach_Black_es) ⟨7, 79, 112, 0, reach_Black_L1⟩ := aeok_of 9223372036854775808 Go.Proofs.Tryd.func79 (by kernel_rfl) reach_Black_den1 (by kernel_rfl)
theorem reach_Black_sem : SemOf Go.Proofs.Tryd.prog 51 reach_Black_sm :=
  semMk teOk (sl := reach_Black_S) (all_cons object_List_sem (all_cons object_Black_sem all_nil)) (fl := reach_Black_fl) (all_cons ⟨⟨Go.Proofs.Tryd.func79, by kernel_rfl⟩, rng_none (by kernel_rfl) (by kernel_rfl)⟩ (all_cons ⟨⟨Go.Proofs.Tryd.func80, by kernel_rfl⟩, rng_none (by kernel_rfl) (by kernel_rfl)⟩ (all_cons ⟨⟨Go.Proofs.Tryd.func103, by kernel_rfl⟩, rng_none (by kernel_rfl) (by kernel_rfl)⟩ (all_nil)))) (es := reach_Black_es) Go.Proofs.Tryd.func51 (by kernel_rfl) rfl (rng_none (by kernel_rfl) (by kernel_rfl)) (all_cons reach_Black_ok0 (all_cons reach_Black_ok1 (all_nil))) rfl reach_Black_den

/-! ### flotsam/flotsamlaw15.awake -/
def flotsamlaw15_awake_r  : Option (Bool × Unit) :=
  (flotsamlaw15_small ()).bind fun y1 =>
  (reach_From (y1.1, [(0, 0, ()), (2, 0, ()), (2, 99, ())], ())).bind fun y2 =>
  (reach_From (y1.1, [(2, 4, ())], ())).bind fun y3 =>
  (flotsamref08_Ints (y2.1, [0, 2], ())).bind fun y4 =>
  bif y4.1 then
    (flotsamref08_Ints (y3.1, [0, 2, 4], ())).bind fun y5 =>
    bif y5.1 then
      (reach_Words (y1.1, [0, 0, 2, 99], ())).bind fun y6 =>
      bif y6.1 == 4 then
        (reach_Black (y1.1, ())).bind fun y7 =>
        some ((y7.1.length : Int) == 3, ())
      else
      some (false, ())
    else
    some (false, ())
  else
  some (false, ())
def flotsamlaw15_awake (x : Unit) : Option (Bool × Unit) := flotsamlaw15_awake_r 
noncomputable def flotsamlaw15_awake_sm : Sum := ⟨.nil, (.cons (.d .bool) .nil), flotsamlaw15_awake⟩
noncomputable def flotsamlaw15_awake_S : List (Nat × Sum) := [(16, flotsamref08_Ints_sm), (27, reach_From_sm), (28, reach_Words_sm), (50, flotsamlaw15_small_sm), (51, reach_Black_sm)]
noncomputable def flotsamlaw15_awake_fl : List (Nat × Func) := []
noncomputable def flotsamlaw15_awake_es : List AE := []
theorem flotsamlaw15_awake_den : (fun x => denFun TEv (look1 flotsamlaw15_awake_S) (look1 flotsamlaw15_awake_fl) (annOf flotsamlaw15_awake_es) 8 26 Go.Proofs.Tryd.f26 flotsamlaw15_awake_sm.a flotsamlaw15_awake_sm.r x) = flotsamlaw15_awake_sm.F := by kernel_rfl
theorem flotsamlaw15_awake_sem : SemOf Go.Proofs.Tryd.prog 26 flotsamlaw15_awake_sm :=
  semMk teOk (sl := flotsamlaw15_awake_S) (all_cons flotsamref08_Ints_sem (all_cons reach_From_sem (all_cons reach_Words_sem (all_cons flotsamlaw15_small_sem (all_cons reach_Black_sem all_nil))))) (fl := flotsamlaw15_awake_fl) (all_nil) (es := flotsamlaw15_awake_es) Go.Proofs.Tryd.func26 (by kernel_rfl) rfl (rng_none (by kernel_rfl) (by kernel_rfl)) (all_nil) rfl flotsamlaw15_awake_den
end Go.Proofs.YtdiogegolnoeoaaDoor.Den
