/- What functions come to. Printed by a program of this session. -/
import Derived.Test.YtebdioogklmeaaaDoorDenFw
namespace Go.Proofs.YtebdioogklmeaaaDoor.Den
open Go
set_option maxRecDepth 100000
set_option linter.unusedVariables false
/-! ### slices.Index[[]int,int] -/
def slices_Index_s0r (v0 : List Int) (v1 : Int) (v7 : Int) (v8 : Int) : Option (SRes (.cons (.sl cI) (.cons cI (.cons cI (.cons cI .nil)))) .nil (.cons cI .nil)) :=
  bif decide (v8 < v7) then
    bif decide (0 ≤ v8) then
      bif decide (v8 < (v0.length : Int)) then
        bif v1 == (v0.getD v8.toNat 0) then
          some (.fin (.ret (v8, ())))
        else
        some (.next (v0, v1, v7, wi64 (v8 + 1), ()))
      else none
    else none
  else
  some (.fin (.out ()))
def slices_Index_s0 (x : (List Int) × Int × Int × Int × Unit) : Option (SRes (.cons (.sl cI) (.cons cI (.cons cI (.cons cI .nil)))) .nil (.cons cI .nil)) := slices_Index_s0r x.1 x.2.1 x.2.2.1 x.2.2.2.1
def slices_Index_l0 (x : (List Int) × Int × Int × Int × Unit) : Option (LRes .nil (.cons cI .nil)) := iterL (h := (.cons (.sl cI) (.cons cI (.cons cI (.cons cI .nil))))) (o := .nil) (r := (.cons cI .nil)) slices_Index_s0 9223372036854775808 x
def slices_Index_r (a0 : List Int) (a1 : Int) : Option (Int × Unit) :=
  (slices_Index_l0 (a0, a1, (a0.length : Int), 0, ())).bind fun s1 => match s1 with
  | .out s1 =>
    some ((-1), ())
  | .ret s1 =>
    some (s1.1, ())
def slices_Index (x : (List Int) × Int × Unit) : Option (Int × Unit) := slices_Index_r x.1 x.2.1
noncomputable def slices_Index_sm : Sum := ⟨(.cons (.sl cI) (.cons cI .nil)), (.cons (.d cI) .nil), slices_Index⟩
noncomputable def slices_Index_L0 : LoopSum := { hc := ⟨[], [0, 1, 7, 8], [], [], [], [], 64⟩, h := ⟨[(0, (.d (.sl cI))), (1, (.d cI)), (7, (.d cI)), (8, (.d cI))], [], [], 64⟩, xid := 0, oc := ⟨[], [], [], [], [], [], 64⟩, o := ⟨[], [], [], 64⟩, rc := ⟨[], [4], [], [], [], [], 64⟩, r := ⟨[(4, (.d cI))], [], [], 64⟩, F := slices_Index_l0 }
noncomputable def slices_Index_S : List (Nat × Sum) := []
noncomputable def slices_Index_fl : List (Nat × Func) := []
noncomputable def slices_Index_es : List AE := [⟨8, 50, 0, 0, slices_Index_L0⟩]
theorem slices_Index_den0 : (fun x => denStep TEv (look1 slices_Index_S) (look1 slices_Index_fl) (annOf slices_Index_es) 8 50 Go.Proofs.Tryd.f50.ntmps 0 (cat (bodyOf Go.Proofs.Tryd.f50) [true, false, true, false, false]) slices_Index_L0 x) = slices_Index_s0 := by kernel_rfl
theorem slices_Index_den : (fun x => denFun TEv (look1 slices_Index_S) (look1 slices_Index_fl) (annOf slices_Index_es) 8 50 Go.Proofs.Tryd.f50 slices_Index_sm.a slices_Index_sm.r x) = slices_Index_sm.F := by kernel_rfl
theorem slices_Index_ok0 : AEok Go.Proofs.Tryd.prog TEv (look1 slices_Index_S) (look1 slices_Index_fl) (annOf slices_Index_es) ⟨8, 50, 0, 0, slices_Index_L0⟩ := aeok_of 9223372036854775808 Go.Proofs.Tryd.func50 (by kernel_rfl) slices_Index_den0 (by kernel_rfl)
theorem slices_Index_sem : SemOf Go.Proofs.Tryd.prog 50 slices_Index_sm :=
  semMk teOk (sl := slices_Index_S) (all_nil) (fl := slices_Index_fl) (all_nil) (es := slices_Index_es) Go.Proofs.Tryd.func50 (by kernel_rfl) rfl (all_cons slices_Index_ok0 (all_nil)) rfl slices_Index_den

/-! ### slices.Contains[[]int,int] -/
def slices_Contains_r (a0 : List Int) (a1 : Int) : Option (Bool × Unit) :=
  (slices_Index (a0, a1, ())).bind fun y1 =>
  some (decide (y1.1 ≥ 0), ())
def slices_Contains (x : (List Int) × Int × Unit) : Option (Bool × Unit) := slices_Contains_r x.1 x.2.1
noncomputable def slices_Contains_sm : Sum := ⟨(.cons (.sl cI) (.cons cI .nil)), (.cons (.d .bool) .nil), slices_Contains⟩
noncomputable def slices_Contains_S : List (Nat × Sum) := [(50, slices_Index_sm)]
noncomputable def slices_Contains_fl : List (Nat × Func) := []
noncomputable def slices_Contains_es : List AE := []
theorem slices_Contains_den : (fun x => denFun TEv (look1 slices_Contains_S) (look1 slices_Contains_fl) (annOf slices_Contains_es) 8 26 Go.Proofs.Tryd.f26 slices_Contains_sm.a slices_Contains_sm.r x) = slices_Contains_sm.F := by kernel_rfl
theorem slices_Contains_sem : SemOf Go.Proofs.Tryd.prog 26 slices_Contains_sm :=
  semMk teOk (sl := slices_Contains_S) (all_cons slices_Index_sem all_nil) (fl := slices_Contains_fl) (all_nil) (es := slices_Contains_es) Go.Proofs.Tryd.func26 (by kernel_rfl) rfl (all_nil) rfl slices_Contains_den

/-! ### flotsam/take.Right -/
def take_Right_s0r (v10 : List (List Int)) (v11 : Int) (v12 : Int) (v16 : List Int) (v17 : Int) (c0 : Heap) (r209 : List Int) : Option (SRes (.cons (.sl (.arr 4 cI)) (.cons cI (.cons cI (.cons (.arr 4 cI) (.cons cI (.cons cHeap (.cons (.sl cI) .nil))))))) (.cons (.sl (.arr 4 cI)) (.cons cI (.cons cI (.cons cHeap (.cons (.sl cI) .nil))))) (.cons .bool .nil)) :=
  bif decide (v17 < 4) then
    bif decide (0 ≤ v17) then
      bif decide (v17 < 4) then
        bif (v16.getD v17.toNat 0) == (-1) then
          some (.next (v10, v11, v12, v16, wi64 (v17 + 1), c0, r209, ()))
        else
        bif decide ((v16.getD v17.toNat 0) < 0) then
          some (.fin (.ret (false, ())))
        else
        bif decide ((v16.getD v17.toNat 0) ≥ (c0.2.1.length : Int)) then
          some (.fin (.ret (false, ())))
        else
        bif decide (0 ≤ (v16.getD v17.toNat 0)) then
          bif decide ((v16.getD v17.toNat 0) < (c0.2.1.length : Int)) then
            bif (c0.2.1.getD (v16.getD v17.toNat 0).toNat (0, 0, 0, ())).1 == 0 then
              some (.fin (.ret (false, ())))
            else
            bif decide (0 ≤ (v16.getD v17.toNat 0)) then
              bif decide ((v16.getD v17.toNat 0) < (c0.2.1.length : Int)) then
                bif (c0.2.1.getD (v16.getD v17.toNat 0).toNat (0, 0, 0, ())).2.1 != v17 then
                  some (.fin (.ret (false, ())))
                else
                (slices_Contains (r209, v16.getD v17.toNat 0, ())).bind fun y1 =>
                bif y1.1 then
                  some (.fin (.ret (false, ())))
                else
                bif decide ((r209.length + 1) * 8 ≤ 140737488355328) then
                  some (.next (v10, v11, v12, v16, wi64 (v17 + 1), c0, r209 ++ [v16.getD v17.toNat 0], ()))
                else none
              else none
            else none
          else none
        else none
      else none
    else none
  else
  some (.fin (.out (v10, v11, v12, c0, r209, ())))
def take_Right_s0 (x : (List (List Int)) × Int × Int × (List Int) × Int × Heap × (List Int) × Unit) : Option (SRes (.cons (.sl (.arr 4 cI)) (.cons cI (.cons cI (.cons (.arr 4 cI) (.cons cI (.cons cHeap (.cons (.sl cI) .nil))))))) (.cons (.sl (.arr 4 cI)) (.cons cI (.cons cI (.cons cHeap (.cons (.sl cI) .nil))))) (.cons .bool .nil)) := take_Right_s0r x.1 x.2.1 x.2.2.1 x.2.2.2.1 x.2.2.2.2.1 x.2.2.2.2.2.1 x.2.2.2.2.2.2.1
def take_Right_l0 (x : (List (List Int)) × Int × Int × (List Int) × Int × Heap × (List Int) × Unit) : Option (LRes (.cons (.sl (.arr 4 cI)) (.cons cI (.cons cI (.cons cHeap (.cons (.sl cI) .nil))))) (.cons .bool .nil)) := iterL (h := (.cons (.sl (.arr 4 cI)) (.cons cI (.cons cI (.cons (.arr 4 cI) (.cons cI (.cons cHeap (.cons (.sl cI) .nil)))))))) (o := (.cons (.sl (.arr 4 cI)) (.cons cI (.cons cI (.cons cHeap (.cons (.sl cI) .nil)))))) (r := (.cons .bool .nil)) take_Right_s0 9223372036854775808 x
def take_Right_s1r (v10 : List (List Int)) (v11 : Int) (v12 : Int) (c0 : Heap) (r96 : List Int) : Option (SRes (.cons (.sl (.arr 4 cI)) (.cons cI (.cons cI (.cons cHeap (.cons (.sl cI) .nil))))) .nil (.cons .bool .nil)) :=
  bif decide (v12 < v11) then
    bif decide (0 ≤ v12) then
      bif decide (v12 < (v10.length : Int)) then
        (take_Right_l0 (v10, v11, v12, v10.getD v12.toNat (List.replicate 4 0), 0, c0, r96, ())).bind fun s2 => match s2 with
        | .out s2 =>
          some (.next (s2.1, s2.2.1, wi64 (s2.2.2.1 + 1), s2.2.2.2.1, s2.2.2.2.2.1, ()))
        | .ret s2 =>
          some (.fin (.ret (s2.1, ())))
      else none
    else none
  else
  some (.fin (.out ()))
def take_Right_s1 (x : (List (List Int)) × Int × Int × Heap × (List Int) × Unit) : Option (SRes (.cons (.sl (.arr 4 cI)) (.cons cI (.cons cI (.cons cHeap (.cons (.sl cI) .nil))))) .nil (.cons .bool .nil)) := take_Right_s1r x.1 x.2.1 x.2.2.1 x.2.2.2.1 x.2.2.2.2.1
def take_Right_l1 (x : (List (List Int)) × Int × Int × Heap × (List Int) × Unit) : Option (LRes .nil (.cons .bool .nil)) := iterL (h := (.cons (.sl (.arr 4 cI)) (.cons cI (.cons cI (.cons cHeap (.cons (.sl cI) .nil)))))) (o := .nil) (r := (.cons .bool .nil)) take_Right_s1 9223372036854775808 x
def take_Right_r (a0 : Heap) (a1 : List (List Int)) : Option (Bool × Unit) :=
  (take_Right_l1 (a1, (a1.length : Int), 0, a0, [], ())).bind fun s3 => match s3 with
  | .out s3 =>
    some (true, ())
  | .ret s3 =>
    some (s3.1, ())
def take_Right (x : Heap × (List (List Int)) × Unit) : Option (Bool × Unit) := take_Right_r x.1 x.2.1
noncomputable def take_Right_sm : Sum := ⟨(.cons cHeap (.cons (.sl (.arr 4 cI)) .nil)), (.cons (.d .bool) .nil), take_Right⟩
noncomputable def take_Right_L0 : LoopSum := { hc := ⟨[], [2, 5, 10, 11, 12, 16, 17], [(.tmp 5, cI)], [], [0], [], 209⟩, h := ⟨[(2, (.pvar 0 [])), (5, (.row 209)), (10, (.d (.sl (.arr 4 cI)))), (11, (.d cI)), (12, (.d cI)), (16, (.d (.arr 4 cI))), (17, (.d cI))], [(0, (.d cHeap))], [(209, cI, true)], 210⟩, xid := 2, oc := ⟨[], [2, 5, 10, 11, 12], [(.tmp 5, cI)], [], [0], [], 209⟩, o := ⟨[(2, (.pvar 0 [])), (5, (.row 209)), (10, (.d (.sl (.arr 4 cI)))), (11, (.d cI)), (12, (.d cI))], [(0, (.d cHeap))], [(209, cI, true)], 210⟩, rc := ⟨[], [4], [], [], [], [], 209⟩, r := ⟨[(4, (.d .bool))], [], [], 209⟩, F := take_Right_l0 }
noncomputable def take_Right_L1 : LoopSum := { hc := ⟨[], [2, 5, 10, 11, 12], [(.tmp 5, cI)], [], [0], [], 96⟩, h := ⟨[(2, (.pvar 0 [])), (5, (.row 96)), (10, (.d (.sl (.arr 4 cI)))), (11, (.d cI)), (12, (.d cI))], [(0, (.d cHeap))], [(96, cI, true)], 97⟩, xid := 0, oc := ⟨[], [], [], [], [], [], 96⟩, o := ⟨[], [], [], 96⟩, rc := ⟨[], [4], [], [], [], [], 96⟩, r := ⟨[(4, (.d .bool))], [], [], 96⟩, F := take_Right_l1 }
noncomputable def take_Right_S : List (Nat × Sum) := [(26, slices_Contains_sm)]
noncomputable def take_Right_fl : List (Nat × Func) := []
noncomputable def take_Right_es : List AE := [⟨8, 11, 0, 2, take_Right_L0⟩, ⟨8, 11, 0, 0, take_Right_L1⟩]
theorem take_Right_den0 : (fun x => denStep TEv (look1 take_Right_S) (look1 take_Right_fl) (annOf take_Right_es) 8 11 Go.Proofs.Tryd.f11.ntmps 0 (cat (bodyOf Go.Proofs.Tryd.f11) [true, true, false, true, false, false, true, true, false, false, true, true, false, false]) take_Right_L0 x) = take_Right_s0 := by kernel_rfl
theorem take_Right_den1 : (fun x => denStep TEv (look1 take_Right_S) (look1 take_Right_fl) (annOf take_Right_es) 8 11 Go.Proofs.Tryd.f11.ntmps 0 (cat (bodyOf Go.Proofs.Tryd.f11) [true, true, false, true, false, false]) take_Right_L1 x) = take_Right_s1 := by kernel_rfl
theorem take_Right_den : (fun x => denFun TEv (look1 take_Right_S) (look1 take_Right_fl) (annOf take_Right_es) 8 11 Go.Proofs.Tryd.f11 take_Right_sm.a take_Right_sm.r x) = take_Right_sm.F := by kernel_rfl
theorem take_Right_ok0 : AEok Go.Proofs.Tryd.prog TEv (look1 take_Right_S) (look1 take_Right_fl) (annOf take_Right_es) ⟨8, 11, 0, 2, take_Right_L0⟩ := aeok_of 9223372036854775808 Go.Proofs.Tryd.func11 (by kernel_rfl) take_Right_den0 (by kernel_rfl)
theorem take_Right_ok1 : AEok Go.Proofs.Tryd.prog TEv (look1 take_Right_S) (look1 take_Right_fl) (annOf take_Right_es) ⟨8, 11, 0, 0, take_Right_L1⟩ := aeok_of 9223372036854775808 Go.Proofs.Tryd.func11 (by kernel_rfl) take_Right_den1 (by kernel_rfl)
theorem take_Right_sem : SemOf Go.Proofs.Tryd.prog 11 take_Right_sm :=
  semMk teOk (sl := take_Right_S) (all_cons slices_Contains_sem all_nil) (fl := take_Right_fl) (all_nil) (es := take_Right_es) Go.Proofs.Tryd.func11 (by kernel_rfl) rfl (all_cons take_Right_ok0 (all_cons take_Right_ok1 (all_nil))) rfl take_Right_den

/-! ### flotsam/take.Kept -/
def take_Kept_s0r (v0 : List (List Int)) (v7 : Int) (v8 : Int) (c0 : Int) : Option (SRes (.cons (.sl (.arr 4 cI)) (.cons cI (.cons cI (.cons cI .nil)))) .nil (.cons cI .nil)) :=
  bif decide (v8 < v7) then
    bif decide (0 ≤ v8) then
      bif decide (v8 < (v0.length : Int)) then
        (slices_Contains (v0.getD v8.toNat (List.replicate 4 0), c0, ())).bind fun y1 =>
        bif y1.1 then
          some (.fin (.ret (v8, ())))
        else
        some (.next (v0, v7, wi64 (v8 + 1), c0, ()))
      else none
    else none
  else
  some (.fin (.out ()))
def take_Kept_s0 (x : (List (List Int)) × Int × Int × Int × Unit) : Option (SRes (.cons (.sl (.arr 4 cI)) (.cons cI (.cons cI (.cons cI .nil)))) .nil (.cons cI .nil)) := take_Kept_s0r x.1 x.2.1 x.2.2.1 x.2.2.2.1
def take_Kept_l0 (x : (List (List Int)) × Int × Int × Int × Unit) : Option (LRes .nil (.cons cI .nil)) := iterL (h := (.cons (.sl (.arr 4 cI)) (.cons cI (.cons cI (.cons cI .nil))))) (o := .nil) (r := (.cons cI .nil)) take_Kept_s0 9223372036854775808 x
def take_Kept_r (a0 : List (List Int)) (a1 : Int) : Option (Bool × Unit) :=
  bif decide (a1 ≥ 0) then
    (take_Kept_l0 (a0, (a0.length : Int), 0, a1, ())).bind fun s2 => match s2 with
    | .out s2 =>
      some (false, ())
    | .ret s2 =>
      some (decide (s2.1 ≥ 0), ())
  else
  some (false, ())
def take_Kept (x : (List (List Int)) × Int × Unit) : Option (Bool × Unit) := take_Kept_r x.1 x.2.1
noncomputable def take_Kept_sm : Sum := ⟨(.cons (.sl (.arr 4 cI)) (.cons cI .nil)), (.cons (.d .bool) .nil), take_Kept⟩
noncomputable def take_Kept_L0 : LoopSum := { hc := ⟨[], [0, 1, 7, 8], [], [], [0], [], 320⟩, h := ⟨[(0, (.d (.sl (.arr 4 cI)))), (1, (.fn 28 .nil (.cons (.pvar 0 []) .nil))), (7, (.d cI)), (8, (.d cI))], [(0, (.d cI))], [], 320⟩, xid := 0, oc := ⟨[], [], [], [], [], [], 320⟩, o := ⟨[], [], [], 320⟩, rc := ⟨[], [4], [], [], [], [], 320⟩, r := ⟨[(4, (.d cI))], [], [], 320⟩, F := take_Kept_l0 }
noncomputable def take_Kept_S : List (Nat × Sum) := [(26, slices_Contains_sm)]
noncomputable def take_Kept_fl : List (Nat × Func) := [(27, Go.Proofs.Tryd.f27), (28, Go.Proofs.Tryd.f28), (51, Go.Proofs.Tryd.f51)]
noncomputable def take_Kept_es : List AE := [⟨6, 51, 256, 0, take_Kept_L0⟩]
theorem take_Kept_den0 : (fun x => denStep TEv (look1 take_Kept_S) (look1 take_Kept_fl) (annOf take_Kept_es) 6 51 Go.Proofs.Tryd.f51.ntmps 256 (cat (bodyOf Go.Proofs.Tryd.f51) [true, false, true, false, false]) take_Kept_L0 x) = take_Kept_s0 := by kernel_rfl
theorem take_Kept_den : (fun x => denFun TEv (look1 take_Kept_S) (look1 take_Kept_fl) (annOf take_Kept_es) 8 13 Go.Proofs.Tryd.f13 take_Kept_sm.a take_Kept_sm.r x) = take_Kept_sm.F := by kernel_rfl
theorem take_Kept_ok0 : AEok Go.Proofs.Tryd.prog TEv (look1 take_Kept_S) (look1 take_Kept_fl) (annOf take_Kept_es) ⟨6, 51, 256, 0, take_Kept_L0⟩ := aeok_of 9223372036854775808 Go.Proofs.Tryd.func51 (by kernel_rfl) take_Kept_den0 (by kernel_rfl)
theorem take_Kept_sem : SemOf Go.Proofs.Tryd.prog 13 take_Kept_sm :=
  semMk teOk (sl := take_Kept_S) (all_cons slices_Contains_sem all_nil) (fl := take_Kept_fl) (all_cons ⟨Go.Proofs.Tryd.func27, by kernel_rfl⟩ (all_cons ⟨Go.Proofs.Tryd.func28, by kernel_rfl⟩ (all_cons ⟨Go.Proofs.Tryd.func51, by kernel_rfl⟩ (all_nil)))) (es := take_Kept_es) Go.Proofs.Tryd.func13 (by kernel_rfl) rfl (all_cons take_Kept_ok0 (all_nil)) rfl take_Kept_den

/-! ### flotsam/span.inUse -/
def span_inUse_r (a0 : Span) : Option (Bool × Unit) :=
  bif a0.1 == 1 then
    some (true, ())
  else
  some (a0.1 == 2, ())
def span_inUse (x : Span × Unit) : Option (Bool × Unit) := span_inUse_r x.1
noncomputable def span_inUse_sm : Sum := ⟨(.cons cSpan .nil), (.cons (.d .bool) .nil), span_inUse⟩
noncomputable def span_inUse_S : List (Nat × Sum) := []
noncomputable def span_inUse_fl : List (Nat × Func) := []
noncomputable def span_inUse_es : List AE := []
theorem span_inUse_den : (fun x => denFun TEv (look1 span_inUse_S) (look1 span_inUse_fl) (annOf span_inUse_es) 8 72 Go.Proofs.Tryd.f72 span_inUse_sm.a span_inUse_sm.r x) = span_inUse_sm.F := by kernel_rfl
theorem span_inUse_sem : SemOf Go.Proofs.Tryd.prog 72 span_inUse_sm :=
  semMk teOk (sl := span_inUse_S) (all_nil) (fl := span_inUse_fl) (all_nil) (es := span_inUse_es) Go.Proofs.Tryd.func72 (by kernel_rfl) rfl (all_nil) rfl span_inUse_den

/-! ### flotsam/span.Full -/
def span_Full_r (a0 : Span) : Option (Bool × Unit) :=
  (span_inUse (a0, ())).bind fun y1 =>
  bif y1.1 then
    some (a0.2.2.1 == 0, ())
  else
  some (false, ())
def span_Full (x : Span × Unit) : Option (Bool × Unit) := span_Full_r x.1
noncomputable def span_Full_sm : Sum := ⟨(.cons cSpan .nil), (.cons (.d .bool) .nil), span_Full⟩
noncomputable def span_Full_S : List (Nat × Sum) := [(72, span_inUse_sm)]
noncomputable def span_Full_fl : List (Nat × Func) := []
noncomputable def span_Full_es : List AE := []
theorem span_Full_den : (fun x => denFun TEv (look1 span_Full_S) (look1 span_Full_fl) (annOf span_Full_es) 8 52 Go.Proofs.Tryd.f52 span_Full_sm.a span_Full_sm.r x) = span_Full_sm.F := by kernel_rfl
theorem span_Full_sem : SemOf Go.Proofs.Tryd.prog 52 span_Full_sm :=
  semMk teOk (sl := span_Full_S) (all_cons span_inUse_sem all_nil) (fl := span_Full_fl) (all_nil) (es := span_Full_es) Go.Proofs.Tryd.func52 (by kernel_rfl) rfl (all_nil) rfl span_Full_den

/-! ### flotsam/take.open -/
def take_open_r (a0 : Span) : Option (Bool × Unit) :=
  bif a0.1 == 1 then
    (span_Full (a0, ())).bind fun y1 =>
    some (!y1.1, ())
  else
  some (false, ())
def take_open (x : Span × Unit) : Option (Bool × Unit) := take_open_r x.1
noncomputable def take_open_sm : Sum := ⟨(.cons cSpan .nil), (.cons (.d .bool) .nil), take_open⟩
noncomputable def take_open_S : List (Nat × Sum) := [(52, span_Full_sm)]
noncomputable def take_open_fl : List (Nat × Func) := []
noncomputable def take_open_es : List AE := []
theorem take_open_den : (fun x => denFun TEv (look1 take_open_S) (look1 take_open_fl) (annOf take_open_es) 8 29 Go.Proofs.Tryd.f29 take_open_sm.a take_open_sm.r x) = take_open_sm.F := by kernel_rfl
theorem take_open_sem : SemOf Go.Proofs.Tryd.prog 29 take_open_sm :=
  semMk teOk (sl := take_open_S) (all_cons span_Full_sem all_nil) (fl := take_open_fl) (all_nil) (es := take_open_es) Go.Proofs.Tryd.func29 (by kernel_rfl) rfl (all_nil) rfl take_open_den

/-! ### (flotsam/queue.row).Len -/
def queue_row_Len_r (a0 : List Int) : Option (Int × Unit) :=
  some ((a0.length : Int), ())
def queue_row_Len (x : (List Int) × Unit) : Option (Int × Unit) := queue_row_Len_r x.1
noncomputable def queue_row_Len_sm : Sum := ⟨(.cons (.sl cI) .nil), (.cons (.d cI) .nil), queue_row_Len⟩
noncomputable def queue_row_Len_S : List (Nat × Sum) := []
noncomputable def queue_row_Len_fl : List (Nat × Func) := []
noncomputable def queue_row_Len_es : List AE := []
theorem queue_row_Len_den : (fun x => denFun TEv (look1 queue_row_Len_S) (look1 queue_row_Len_fl) (annOf queue_row_Len_es) 8 76 Go.Proofs.Tryd.f76 queue_row_Len_sm.a queue_row_Len_sm.r x) = queue_row_Len_sm.F := by kernel_rfl
theorem queue_row_Len_sem : SemOf Go.Proofs.Tryd.prog 76 queue_row_Len_sm :=
  semMk teOk (sl := queue_row_Len_S) (all_nil) (fl := queue_row_Len_fl) (all_nil) (es := queue_row_Len_es) Go.Proofs.Tryd.func76 (by kernel_rfl) rfl (all_nil) rfl queue_row_Len_den

/-! ### flotsam/take.Page$2 -/
def take_Page_2_r (a0 : Int) (a1 : Span) : Option (Bool × Unit) :=
  some (a1.1 == 0, ())
def take_Page_2 (x : Int × Span × Unit) : Option (Bool × Unit) := take_Page_2_r x.1 x.2.1
noncomputable def take_Page_2_sm : Sum := ⟨(.cons cI (.cons cSpan .nil)), (.cons (.d .bool) .nil), take_Page_2⟩
noncomputable def take_Page_2_S : List (Nat × Sum) := []
noncomputable def take_Page_2_fl : List (Nat × Func) := []
noncomputable def take_Page_2_es : List AE := []
theorem take_Page_2_den : (fun x => denFun TEv (look1 take_Page_2_S) (look1 take_Page_2_fl) (annOf take_Page_2_es) 8 32 Go.Proofs.Tryd.f32 take_Page_2_sm.a take_Page_2_sm.r x) = take_Page_2_sm.F := by kernel_rfl
theorem take_Page_2_sem : SemOf Go.Proofs.Tryd.prog 32 take_Page_2_sm :=
  semMk teOk (sl := take_Page_2_S) (all_nil) (fl := take_Page_2_fl) (all_nil) (es := take_Page_2_es) Go.Proofs.Tryd.func32 (by kernel_rfl) rfl (all_nil) rfl take_Page_2_den

/-! ### flotsam/take.Page -/
def take_Page_s0r (v1 : Int) (v2 : Int) (v7 : Int) (c0 : Heap) (c16 : List (List Int)) (c32 : Int) (c480 : Heap) (r592 : List Int) : Option (SRes (.cons cI (.cons cI (.cons cI (.cons cHeap (.cons (.sl (.arr 4 cI)) (.cons cI (.cons cHeap (.cons (.sl cI) .nil)))))))) (.cons cI (.cons cI (.cons cHeap (.cons (.sl (.arr 4 cI)) (.cons cI (.cons cHeap (.cons (.sl cI) .nil))))))) .nil) :=
  bif decide ((wi64 ((wi64 (2 * v7)) + 1)) ≥ v2) then
    some (.fin (.out (v1, v7, c0, c16, c32, c480, r592, ())))
  else
  bif decide ((wi64 ((wi64 (2 * v7)) + 1)) < 0) then
    some (.fin (.out (v1, v7, c0, c16, c32, c480, r592, ())))
  else
  bif decide ((wi64 ((wi64 ((wi64 (2 * v7)) + 1)) + 1)) < v2) then
    bif decide (0 ≤ (wi64 ((wi64 ((wi64 (2 * v7)) + 1)) + 1))) then
      bif decide ((wi64 ((wi64 ((wi64 (2 * v7)) + 1)) + 1)) < (r592.length : Int)) then
        bif decide (0 ≤ (wi64 ((wi64 (2 * v7)) + 1))) then
          bif decide ((wi64 ((wi64 (2 * v7)) + 1)) < (r592.length : Int)) then
            bif decide ((r592.getD (wi64 ((wi64 ((wi64 (2 * v7)) + 1)) + 1)).toNat 0) < (r592.getD (wi64 ((wi64 (2 * v7)) + 1)).toNat 0)) then
              bif decide (0 ≤ (wi64 ((wi64 ((wi64 (2 * v7)) + 1)) + 1))) then
                bif decide ((wi64 ((wi64 ((wi64 (2 * v7)) + 1)) + 1)) < (r592.length : Int)) then
                  bif decide (0 ≤ v7) then
                    bif decide (v7 < (r592.length : Int)) then
                      bif !(decide ((r592.getD (wi64 ((wi64 ((wi64 (2 * v7)) + 1)) + 1)).toNat 0) < (r592.getD v7.toNat 0))) then
                        some (.fin (.out (v1, v7, c0, c16, c32, c480, r592, ())))
                      else
                      bif decide (0 ≤ (wi64 ((wi64 ((wi64 (2 * v7)) + 1)) + 1))) then
                        bif decide ((wi64 ((wi64 ((wi64 (2 * v7)) + 1)) + 1)) < (r592.length : Int)) then
                          bif decide (0 ≤ v7) then
                            bif decide (v7 < (r592.length : Int)) then
                              bif decide (0 ≤ v7) then
                                bif decide (v7 < (r592.length : Int)) then
                                  bif decide (0 ≤ (wi64 ((wi64 ((wi64 (2 * v7)) + 1)) + 1))) then
                                    bif decide ((wi64 ((wi64 ((wi64 (2 * v7)) + 1)) + 1)) < ((r592.set v7.toNat (r592.getD (wi64 ((wi64 ((wi64 (2 * v7)) + 1)) + 1)).toNat 0)).length : Int)) then
                                      some (.next (v1, v2, wi64 ((wi64 ((wi64 (2 * v7)) + 1)) + 1), c0, c16, c32, c480, (r592.set v7.toNat (r592.getD (wi64 ((wi64 ((wi64 (2 * v7)) + 1)) + 1)).toNat 0)).set (wi64 ((wi64 ((wi64 (2 * v7)) + 1)) + 1)).toNat (r592.getD v7.toNat 0), ()))
                                    else none
                                  else none
                                else none
                              else none
                            else none
                          else none
                        else none
                      else none
                    else none
                  else none
                else none
              else none
            else
            bif decide (0 ≤ (wi64 ((wi64 (2 * v7)) + 1))) then
              bif decide ((wi64 ((wi64 (2 * v7)) + 1)) < (r592.length : Int)) then
                bif decide (0 ≤ v7) then
                  bif decide (v7 < (r592.length : Int)) then
                    bif !(decide ((r592.getD (wi64 ((wi64 (2 * v7)) + 1)).toNat 0) < (r592.getD v7.toNat 0))) then
                      some (.fin (.out (v1, v7, c0, c16, c32, c480, r592, ())))
                    else
                    bif decide (0 ≤ (wi64 ((wi64 (2 * v7)) + 1))) then
                      bif decide ((wi64 ((wi64 (2 * v7)) + 1)) < (r592.length : Int)) then
                        bif decide (0 ≤ v7) then
                          bif decide (v7 < (r592.length : Int)) then
                            bif decide (0 ≤ v7) then
                              bif decide (v7 < (r592.length : Int)) then
                                bif decide (0 ≤ (wi64 ((wi64 (2 * v7)) + 1))) then
                                  bif decide ((wi64 ((wi64 (2 * v7)) + 1)) < ((r592.set v7.toNat (r592.getD (wi64 ((wi64 (2 * v7)) + 1)).toNat 0)).length : Int)) then
                                    some (.next (v1, v2, wi64 ((wi64 (2 * v7)) + 1), c0, c16, c32, c480, (r592.set v7.toNat (r592.getD (wi64 ((wi64 (2 * v7)) + 1)).toNat 0)).set (wi64 ((wi64 (2 * v7)) + 1)).toNat (r592.getD v7.toNat 0), ()))
                                  else none
                                else none
                              else none
                            else none
                          else none
                        else none
                      else none
                    else none
                  else none
                else none
              else none
            else none
          else none
        else none
      else none
    else none
  else
  bif decide (0 ≤ (wi64 ((wi64 (2 * v7)) + 1))) then
    bif decide ((wi64 ((wi64 (2 * v7)) + 1)) < (r592.length : Int)) then
      bif decide (0 ≤ v7) then
        bif decide (v7 < (r592.length : Int)) then
          bif !(decide ((r592.getD (wi64 ((wi64 (2 * v7)) + 1)).toNat 0) < (r592.getD v7.toNat 0))) then
            some (.fin (.out (v1, v7, c0, c16, c32, c480, r592, ())))
          else
          bif decide (0 ≤ (wi64 ((wi64 (2 * v7)) + 1))) then
            bif decide ((wi64 ((wi64 (2 * v7)) + 1)) < (r592.length : Int)) then
              bif decide (0 ≤ v7) then
                bif decide (v7 < (r592.length : Int)) then
                  bif decide (0 ≤ v7) then
                    bif decide (v7 < (r592.length : Int)) then
                      bif decide (0 ≤ (wi64 ((wi64 (2 * v7)) + 1))) then
                        bif decide ((wi64 ((wi64 (2 * v7)) + 1)) < ((r592.set v7.toNat (r592.getD (wi64 ((wi64 (2 * v7)) + 1)).toNat 0)).length : Int)) then
                          some (.next (v1, v2, wi64 ((wi64 (2 * v7)) + 1), c0, c16, c32, c480, (r592.set v7.toNat (r592.getD (wi64 ((wi64 (2 * v7)) + 1)).toNat 0)).set (wi64 ((wi64 (2 * v7)) + 1)).toNat (r592.getD v7.toNat 0), ()))
                        else none
                      else none
                    else none
                  else none
                else none
              else none
            else none
          else none
        else none
      else none
    else none
  else none
def take_Page_s0 (x : Int × Int × Int × Heap × (List (List Int)) × Int × Heap × (List Int) × Unit) : Option (SRes (.cons cI (.cons cI (.cons cI (.cons cHeap (.cons (.sl (.arr 4 cI)) (.cons cI (.cons cHeap (.cons (.sl cI) .nil)))))))) (.cons cI (.cons cI (.cons cHeap (.cons (.sl (.arr 4 cI)) (.cons cI (.cons cHeap (.cons (.sl cI) .nil))))))) .nil) := take_Page_s0r x.1 x.2.1 x.2.2.1 x.2.2.2.1 x.2.2.2.2.1 x.2.2.2.2.2.1 x.2.2.2.2.2.2.1 x.2.2.2.2.2.2.2.1
def take_Page_l0 (x : Int × Int × Int × Heap × (List (List Int)) × Int × Heap × (List Int) × Unit) : Option (LRes (.cons cI (.cons cI (.cons cHeap (.cons (.sl (.arr 4 cI)) (.cons cI (.cons cHeap (.cons (.sl cI) .nil))))))) .nil) := iterL (h := (.cons cI (.cons cI (.cons cI (.cons cHeap (.cons (.sl (.arr 4 cI)) (.cons cI (.cons cHeap (.cons (.sl cI) .nil))))))))) (o := (.cons cI (.cons cI (.cons cHeap (.cons (.sl (.arr 4 cI)) (.cons cI (.cons cHeap (.cons (.sl cI) .nil)))))))) (r := .nil) take_Page_s0 9223372036854775808 x
def take_Page_s1r (v2 : Int) (v3 : Int) (c0 : Heap) (c16 : List (List Int)) (c32 : Int) (c480 : Heap) (r592 : List Int) : Option (SRes (.cons cI (.cons cI (.cons cHeap (.cons (.sl (.arr 4 cI)) (.cons cI (.cons cHeap (.cons (.sl cI) .nil))))))) (.cons cHeap (.cons (.sl (.arr 4 cI)) (.cons cI (.cons cHeap (.cons (.sl cI) .nil))))) .nil) :=
  bif decide (v3 ≥ 0) then
    (take_Page_l0 (v3, v2, v3, c0, c16, c32, c480, r592, ())).bind fun s4 => match s4 with
    | .out s4 =>
      some (.next (v2, wi64 (v3 - 1), s4.2.2.1, s4.2.2.2.1, s4.2.2.2.2.1, s4.2.2.2.2.2.1, s4.2.2.2.2.2.2.1, ()))
    | .ret s4 =>
      none
  else
  some (.fin (.out (c0, c16, c32, c480, r592, ())))
def take_Page_s1 (x : Int × Int × Heap × (List (List Int)) × Int × Heap × (List Int) × Unit) : Option (SRes (.cons cI (.cons cI (.cons cHeap (.cons (.sl (.arr 4 cI)) (.cons cI (.cons cHeap (.cons (.sl cI) .nil))))))) (.cons cHeap (.cons (.sl (.arr 4 cI)) (.cons cI (.cons cHeap (.cons (.sl cI) .nil))))) .nil) := take_Page_s1r x.1 x.2.1 x.2.2.1 x.2.2.2.1 x.2.2.2.2.1 x.2.2.2.2.2.1 x.2.2.2.2.2.2.1
def take_Page_l1 (x : Int × Int × Heap × (List (List Int)) × Int × Heap × (List Int) × Unit) : Option (LRes (.cons cHeap (.cons (.sl (.arr 4 cI)) (.cons cI (.cons cHeap (.cons (.sl cI) .nil))))) .nil) := iterL (h := (.cons cI (.cons cI (.cons cHeap (.cons (.sl (.arr 4 cI)) (.cons cI (.cons cHeap (.cons (.sl cI) .nil)))))))) (o := (.cons cHeap (.cons (.sl (.arr 4 cI)) (.cons cI (.cons cHeap (.cons (.sl cI) .nil)))))) (r := .nil) take_Page_s1 9223372036854775808 x
def take_Page_s2r (v1 : Int) (c0 : Heap) (c16 : List (List Int)) (c32 : Int) (c800 : Unit) (r1793 : List Int) : Option (SRes (.cons cI (.cons cHeap (.cons (.sl (.arr 4 cI)) (.cons cI (.cons .nil (.cons (.sl cI) .nil)))))) (.cons cHeap (.cons (.sl (.arr 4 cI)) (.cons cI (.cons .nil (.cons (.sl cI) .nil))))) .nil) :=
  bif (wi64 ((wi64 (v1 - 1)).tdiv 2)) == v1 then
    some (.fin (.out (c0, c16, c32, c800, r1793, ())))
  else
  bif decide (0 ≤ v1) then
    bif decide (v1 < (r1793.length : Int)) then
      bif decide (0 ≤ (wi64 ((wi64 (v1 - 1)).tdiv 2))) then
        bif decide ((wi64 ((wi64 (v1 - 1)).tdiv 2)) < (r1793.length : Int)) then
          bif !(decide ((r1793.getD v1.toNat 0) < (r1793.getD (wi64 ((wi64 (v1 - 1)).tdiv 2)).toNat 0))) then
            some (.fin (.out (c0, c16, c32, c800, r1793, ())))
          else
          bif decide (0 ≤ v1) then
            bif decide (v1 < (r1793.length : Int)) then
              bif decide (0 ≤ (wi64 ((wi64 (v1 - 1)).tdiv 2))) then
                bif decide ((wi64 ((wi64 (v1 - 1)).tdiv 2)) < (r1793.length : Int)) then
                  bif decide (0 ≤ (wi64 ((wi64 (v1 - 1)).tdiv 2))) then
                    bif decide ((wi64 ((wi64 (v1 - 1)).tdiv 2)) < (r1793.length : Int)) then
                      bif decide (0 ≤ v1) then
                        bif decide (v1 < ((r1793.set (wi64 ((wi64 (v1 - 1)).tdiv 2)).toNat (r1793.getD v1.toNat 0)).length : Int)) then
                          some (.next (wi64 ((wi64 (v1 - 1)).tdiv 2), c0, c16, c32, c800, (r1793.set (wi64 ((wi64 (v1 - 1)).tdiv 2)).toNat (r1793.getD v1.toNat 0)).set v1.toNat (r1793.getD (wi64 ((wi64 (v1 - 1)).tdiv 2)).toNat 0), ()))
                        else none
                      else none
                    else none
                  else none
                else none
              else none
            else none
          else none
        else none
      else none
    else none
  else none
def take_Page_s2 (x : Int × Heap × (List (List Int)) × Int × Unit × (List Int) × Unit) : Option (SRes (.cons cI (.cons cHeap (.cons (.sl (.arr 4 cI)) (.cons cI (.cons .nil (.cons (.sl cI) .nil)))))) (.cons cHeap (.cons (.sl (.arr 4 cI)) (.cons cI (.cons .nil (.cons (.sl cI) .nil))))) .nil) := take_Page_s2r x.1 x.2.1 x.2.2.1 x.2.2.2.1 x.2.2.2.2.1 x.2.2.2.2.2.1
def take_Page_l2 (x : Int × Heap × (List (List Int)) × Int × Unit × (List Int) × Unit) : Option (LRes (.cons cHeap (.cons (.sl (.arr 4 cI)) (.cons cI (.cons .nil (.cons (.sl cI) .nil))))) .nil) := iterL (h := (.cons cI (.cons cHeap (.cons (.sl (.arr 4 cI)) (.cons cI (.cons .nil (.cons (.sl cI) .nil))))))) (o := (.cons cHeap (.cons (.sl (.arr 4 cI)) (.cons cI (.cons .nil (.cons (.sl cI) .nil)))))) (r := .nil) take_Page_s2 9223372036854775808 x
def take_Page_s3r (v11 : List Span) (v12 : Int) (v13 : Int) (c0 : Heap) (c16 : List (List Int)) (c32 : Int) (c800 : Unit) (r896 : List Int) : Option (SRes (.cons (.sl cSpan) (.cons cI (.cons cI (.cons cHeap (.cons (.sl (.arr 4 cI)) (.cons cI (.cons .nil (.cons (.sl cI) .nil)))))))) (.cons cHeap (.cons .nil (.cons (.sl cI) .nil))) .nil) :=
  bif decide (v13 < v12) then
    bif decide (0 ≤ v13) then
      bif decide (v13 < (v11.length : Int)) then
        (take_open (v11.getD v13.toNat (0, 0, 0, ()), ())).bind fun y6 =>
        bif y6.1 then
          bif (v11.getD v13.toNat (0, 0, 0, ())).2.1 == c32 then
            (take_Kept (c16, v13, ())).bind fun y7 =>
            bif !y7.1 then
              bif decide ((r896.length + 1) * 8 ≤ 140737488355328) then
                (queue_row_Len (r896 ++ [v13], ())).bind fun y8 =>
                (take_Page_l2 (wi64 (y8.1 - 1), c0, c16, c32, c800, r896 ++ [v13], ())).bind fun s9 => match s9 with
                | .out s9 =>
                  some (.next (v11, v12, wi64 (v13 + 1), s9.1, s9.2.1, s9.2.2.1, s9.2.2.2.1, s9.2.2.2.2.1, ()))
                | .ret s9 =>
                  none
              else none
            else
            some (.next (v11, v12, wi64 (v13 + 1), c0, c16, c32, c800, r896, ()))
          else
          some (.next (v11, v12, wi64 (v13 + 1), c0, c16, c32, c800, r896, ()))
        else
        some (.next (v11, v12, wi64 (v13 + 1), c0, c16, c32, c800, r896, ()))
      else none
    else none
  else
  some (.fin (.out (c0, c800, r896, ())))
def take_Page_s3 (x : (List Span) × Int × Int × Heap × (List (List Int)) × Int × Unit × (List Int) × Unit) : Option (SRes (.cons (.sl cSpan) (.cons cI (.cons cI (.cons cHeap (.cons (.sl (.arr 4 cI)) (.cons cI (.cons .nil (.cons (.sl cI) .nil)))))))) (.cons cHeap (.cons .nil (.cons (.sl cI) .nil))) .nil) := take_Page_s3r x.1 x.2.1 x.2.2.1 x.2.2.2.1 x.2.2.2.2.1 x.2.2.2.2.2.1 x.2.2.2.2.2.2.1 x.2.2.2.2.2.2.2.1
def take_Page_l3 (x : (List Span) × Int × Int × Heap × (List (List Int)) × Int × Unit × (List Int) × Unit) : Option (LRes (.cons cHeap (.cons .nil (.cons (.sl cI) .nil))) .nil) := iterL (h := (.cons (.sl cSpan) (.cons cI (.cons cI (.cons cHeap (.cons (.sl (.arr 4 cI)) (.cons cI (.cons .nil (.cons (.sl cI) .nil))))))))) (o := (.cons cHeap (.cons .nil (.cons (.sl cI) .nil)))) (r := .nil) take_Page_s3 9223372036854775808 x
def take_Page_s4r (v1 : Int) (v2 : Int) (v7 : Int) (c1297 : Heap) (r1409 : List Int) : Option (SRes (.cons cI (.cons cI (.cons cI (.cons cHeap (.cons (.sl cI) .nil))))) (.cons cI (.cons cI (.cons cHeap (.cons (.sl cI) .nil)))) .nil) :=
  bif decide ((wi64 ((wi64 (2 * v7)) + 1)) ≥ v2) then
    some (.fin (.out (v1, v7, c1297, r1409, ())))
  else
  bif decide ((wi64 ((wi64 (2 * v7)) + 1)) < 0) then
    some (.fin (.out (v1, v7, c1297, r1409, ())))
  else
  bif decide ((wi64 ((wi64 ((wi64 (2 * v7)) + 1)) + 1)) < v2) then
    bif decide (0 ≤ (wi64 ((wi64 ((wi64 (2 * v7)) + 1)) + 1))) then
      bif decide ((wi64 ((wi64 ((wi64 (2 * v7)) + 1)) + 1)) < (r1409.length : Int)) then
        bif decide (0 ≤ (wi64 ((wi64 (2 * v7)) + 1))) then
          bif decide ((wi64 ((wi64 (2 * v7)) + 1)) < (r1409.length : Int)) then
            bif decide ((r1409.getD (wi64 ((wi64 ((wi64 (2 * v7)) + 1)) + 1)).toNat 0) < (r1409.getD (wi64 ((wi64 (2 * v7)) + 1)).toNat 0)) then
              bif decide (0 ≤ (wi64 ((wi64 ((wi64 (2 * v7)) + 1)) + 1))) then
                bif decide ((wi64 ((wi64 ((wi64 (2 * v7)) + 1)) + 1)) < (r1409.length : Int)) then
                  bif decide (0 ≤ v7) then
                    bif decide (v7 < (r1409.length : Int)) then
                      bif !(decide ((r1409.getD (wi64 ((wi64 ((wi64 (2 * v7)) + 1)) + 1)).toNat 0) < (r1409.getD v7.toNat 0))) then
                        some (.fin (.out (v1, v7, c1297, r1409, ())))
                      else
                      bif decide (0 ≤ (wi64 ((wi64 ((wi64 (2 * v7)) + 1)) + 1))) then
                        bif decide ((wi64 ((wi64 ((wi64 (2 * v7)) + 1)) + 1)) < (r1409.length : Int)) then
                          bif decide (0 ≤ v7) then
                            bif decide (v7 < (r1409.length : Int)) then
                              bif decide (0 ≤ v7) then
                                bif decide (v7 < (r1409.length : Int)) then
                                  bif decide (0 ≤ (wi64 ((wi64 ((wi64 (2 * v7)) + 1)) + 1))) then
                                    bif decide ((wi64 ((wi64 ((wi64 (2 * v7)) + 1)) + 1)) < ((r1409.set v7.toNat (r1409.getD (wi64 ((wi64 ((wi64 (2 * v7)) + 1)) + 1)).toNat 0)).length : Int)) then
                                      some (.next (v1, v2, wi64 ((wi64 ((wi64 (2 * v7)) + 1)) + 1), c1297, (r1409.set v7.toNat (r1409.getD (wi64 ((wi64 ((wi64 (2 * v7)) + 1)) + 1)).toNat 0)).set (wi64 ((wi64 ((wi64 (2 * v7)) + 1)) + 1)).toNat (r1409.getD v7.toNat 0), ()))
                                    else none
                                  else none
                                else none
                              else none
                            else none
                          else none
                        else none
                      else none
                    else none
                  else none
                else none
              else none
            else
            bif decide (0 ≤ (wi64 ((wi64 (2 * v7)) + 1))) then
              bif decide ((wi64 ((wi64 (2 * v7)) + 1)) < (r1409.length : Int)) then
                bif decide (0 ≤ v7) then
                  bif decide (v7 < (r1409.length : Int)) then
                    bif !(decide ((r1409.getD (wi64 ((wi64 (2 * v7)) + 1)).toNat 0) < (r1409.getD v7.toNat 0))) then
                      some (.fin (.out (v1, v7, c1297, r1409, ())))
                    else
                    bif decide (0 ≤ (wi64 ((wi64 (2 * v7)) + 1))) then
                      bif decide ((wi64 ((wi64 (2 * v7)) + 1)) < (r1409.length : Int)) then
                        bif decide (0 ≤ v7) then
                          bif decide (v7 < (r1409.length : Int)) then
                            bif decide (0 ≤ v7) then
                              bif decide (v7 < (r1409.length : Int)) then
                                bif decide (0 ≤ (wi64 ((wi64 (2 * v7)) + 1))) then
                                  bif decide ((wi64 ((wi64 (2 * v7)) + 1)) < ((r1409.set v7.toNat (r1409.getD (wi64 ((wi64 (2 * v7)) + 1)).toNat 0)).length : Int)) then
                                    some (.next (v1, v2, wi64 ((wi64 (2 * v7)) + 1), c1297, (r1409.set v7.toNat (r1409.getD (wi64 ((wi64 (2 * v7)) + 1)).toNat 0)).set (wi64 ((wi64 (2 * v7)) + 1)).toNat (r1409.getD v7.toNat 0), ()))
                                  else none
                                else none
                              else none
                            else none
                          else none
                        else none
                      else none
                    else none
                  else none
                else none
              else none
            else none
          else none
        else none
      else none
    else none
  else
  bif decide (0 ≤ (wi64 ((wi64 (2 * v7)) + 1))) then
    bif decide ((wi64 ((wi64 (2 * v7)) + 1)) < (r1409.length : Int)) then
      bif decide (0 ≤ v7) then
        bif decide (v7 < (r1409.length : Int)) then
          bif !(decide ((r1409.getD (wi64 ((wi64 (2 * v7)) + 1)).toNat 0) < (r1409.getD v7.toNat 0))) then
            some (.fin (.out (v1, v7, c1297, r1409, ())))
          else
          bif decide (0 ≤ (wi64 ((wi64 (2 * v7)) + 1))) then
            bif decide ((wi64 ((wi64 (2 * v7)) + 1)) < (r1409.length : Int)) then
              bif decide (0 ≤ v7) then
                bif decide (v7 < (r1409.length : Int)) then
                  bif decide (0 ≤ v7) then
                    bif decide (v7 < (r1409.length : Int)) then
                      bif decide (0 ≤ (wi64 ((wi64 (2 * v7)) + 1))) then
                        bif decide ((wi64 ((wi64 (2 * v7)) + 1)) < ((r1409.set v7.toNat (r1409.getD (wi64 ((wi64 (2 * v7)) + 1)).toNat 0)).length : Int)) then
                          some (.next (v1, v2, wi64 ((wi64 (2 * v7)) + 1), c1297, (r1409.set v7.toNat (r1409.getD (wi64 ((wi64 (2 * v7)) + 1)).toNat 0)).set (wi64 ((wi64 (2 * v7)) + 1)).toNat (r1409.getD v7.toNat 0), ()))
                        else none
                      else none
                    else none
                  else none
                else none
              else none
            else none
          else none
        else none
      else none
    else none
  else none
def take_Page_s4 (x : Int × Int × Int × Heap × (List Int) × Unit) : Option (SRes (.cons cI (.cons cI (.cons cI (.cons cHeap (.cons (.sl cI) .nil))))) (.cons cI (.cons cI (.cons cHeap (.cons (.sl cI) .nil)))) .nil) := take_Page_s4r x.1 x.2.1 x.2.2.1 x.2.2.2.1 x.2.2.2.2.1
def take_Page_l4 (x : Int × Int × Int × Heap × (List Int) × Unit) : Option (LRes (.cons cI (.cons cI (.cons cHeap (.cons (.sl cI) .nil)))) .nil) := iterL (h := (.cons cI (.cons cI (.cons cI (.cons cHeap (.cons (.sl cI) .nil)))))) (o := (.cons cI (.cons cI (.cons cHeap (.cons (.sl cI) .nil))))) (r := .nil) take_Page_s4 9223372036854775808 x
def take_Page_s5r (v2 : Int) (v3 : Int) (c1297 : Heap) (r1409 : List Int) : Option (SRes (.cons cI (.cons cI (.cons cHeap (.cons (.sl cI) .nil)))) (.cons cHeap (.cons (.sl cI) .nil)) .nil) :=
  bif decide (v3 ≥ 0) then
    (take_Page_l4 (v3, v2, v3, c1297, r1409, ())).bind fun s14 => match s14 with
    | .out s14 =>
      some (.next (v2, wi64 (v3 - 1), s14.2.2.1, s14.2.2.2.1, ()))
    | .ret s14 =>
      none
  else
  some (.fin (.out (c1297, r1409, ())))
def take_Page_s5 (x : Int × Int × Heap × (List Int) × Unit) : Option (SRes (.cons cI (.cons cI (.cons cHeap (.cons (.sl cI) .nil)))) (.cons cHeap (.cons (.sl cI) .nil)) .nil) := take_Page_s5r x.1 x.2.1 x.2.2.1 x.2.2.2.1
def take_Page_l5 (x : Int × Int × Heap × (List Int) × Unit) : Option (LRes (.cons cHeap (.cons (.sl cI) .nil)) .nil) := iterL (h := (.cons cI (.cons cI (.cons cHeap (.cons (.sl cI) .nil))))) (o := (.cons cHeap (.cons (.sl cI) .nil))) (r := .nil) take_Page_s5 9223372036854775808 x
def take_Page_s6r (v1 : Int) (c1617 : Unit) (r2338 : List Int) : Option (SRes (.cons cI (.cons .nil (.cons (.sl cI) .nil))) (.cons .nil (.cons (.sl cI) .nil)) .nil) :=
  bif (wi64 ((wi64 (v1 - 1)).tdiv 2)) == v1 then
    some (.fin (.out (c1617, r2338, ())))
  else
  bif decide (0 ≤ v1) then
    bif decide (v1 < (r2338.length : Int)) then
      bif decide (0 ≤ (wi64 ((wi64 (v1 - 1)).tdiv 2))) then
        bif decide ((wi64 ((wi64 (v1 - 1)).tdiv 2)) < (r2338.length : Int)) then
          bif !(decide ((r2338.getD v1.toNat 0) < (r2338.getD (wi64 ((wi64 (v1 - 1)).tdiv 2)).toNat 0))) then
            some (.fin (.out (c1617, r2338, ())))
          else
          bif decide (0 ≤ v1) then
            bif decide (v1 < (r2338.length : Int)) then
              bif decide (0 ≤ (wi64 ((wi64 (v1 - 1)).tdiv 2))) then
                bif decide ((wi64 ((wi64 (v1 - 1)).tdiv 2)) < (r2338.length : Int)) then
                  bif decide (0 ≤ (wi64 ((wi64 (v1 - 1)).tdiv 2))) then
                    bif decide ((wi64 ((wi64 (v1 - 1)).tdiv 2)) < (r2338.length : Int)) then
                      bif decide (0 ≤ v1) then
                        bif decide (v1 < ((r2338.set (wi64 ((wi64 (v1 - 1)).tdiv 2)).toNat (r2338.getD v1.toNat 0)).length : Int)) then
                          some (.next (wi64 ((wi64 (v1 - 1)).tdiv 2), c1617, (r2338.set (wi64 ((wi64 (v1 - 1)).tdiv 2)).toNat (r2338.getD v1.toNat 0)).set v1.toNat (r2338.getD (wi64 ((wi64 (v1 - 1)).tdiv 2)).toNat 0), ()))
                        else none
                      else none
                    else none
                  else none
                else none
              else none
            else none
          else none
        else none
      else none
    else none
  else none
def take_Page_s6 (x : Int × Unit × (List Int) × Unit) : Option (SRes (.cons cI (.cons .nil (.cons (.sl cI) .nil))) (.cons .nil (.cons (.sl cI) .nil)) .nil) := take_Page_s6r x.1 x.2.1 x.2.2.1
def take_Page_l6 (x : Int × Unit × (List Int) × Unit) : Option (LRes (.cons .nil (.cons (.sl cI) .nil)) .nil) := iterL (h := (.cons cI (.cons .nil (.cons (.sl cI) .nil)))) (o := (.cons .nil (.cons (.sl cI) .nil))) (r := .nil) take_Page_s6 9223372036854775808 x
def take_Page_s7r (v11 : List Span) (v12 : Int) (v13 : Int) (c1617 : Unit) (r1713 : List Int) : Option (SRes (.cons (.sl cSpan) (.cons cI (.cons cI (.cons .nil (.cons (.sl cI) .nil))))) (.cons .nil (.cons (.sl cI) .nil)) .nil) :=
  bif decide (v13 < v12) then
    bif decide (0 ≤ v13) then
      bif decide (v13 < (v11.length : Int)) then
        (take_Page_2 (v13, v11.getD v13.toNat (0, 0, 0, ()), ())).bind fun y16 =>
        bif y16.1 then
          bif decide ((r1713.length + 1) * 8 ≤ 140737488355328) then
            (queue_row_Len (r1713 ++ [v13], ())).bind fun y17 =>
            (take_Page_l6 (wi64 (y17.1 - 1), c1617, r1713 ++ [v13], ())).bind fun s18 => match s18 with
            | .out s18 =>
              some (.next (v11, v12, wi64 (v13 + 1), s18.1, s18.2.1, ()))
            | .ret s18 =>
              none
          else none
        else
        some (.next (v11, v12, wi64 (v13 + 1), c1617, r1713, ()))
      else none
    else none
  else
  some (.fin (.out (c1617, r1713, ())))
def take_Page_s7 (x : (List Span) × Int × Int × Unit × (List Int) × Unit) : Option (SRes (.cons (.sl cSpan) (.cons cI (.cons cI (.cons .nil (.cons (.sl cI) .nil))))) (.cons .nil (.cons (.sl cI) .nil)) .nil) := take_Page_s7r x.1 x.2.1 x.2.2.1 x.2.2.2.1 x.2.2.2.2.1
def take_Page_l7 (x : (List Span) × Int × Int × Unit × (List Int) × Unit) : Option (LRes (.cons .nil (.cons (.sl cI) .nil)) .nil) := iterL (h := (.cons (.sl cSpan) (.cons cI (.cons cI (.cons .nil (.cons (.sl cI) .nil)))))) (o := (.cons .nil (.cons (.sl cI) .nil))) (r := .nil) take_Page_s7 9223372036854775808 x
def take_Page_r (a0 : Heap) (a1 : List (List Int)) (a2 : Int) (a3 : Int) : Option (Int × Bool × Unit) :=
  bif decide (0 ≤ a2) then
    bif decide (a2 < (a1.length : Int)) then
      bif decide (0 ≤ a3) then
        bif decide (a3 < 4) then
          bif ((a1.getD a2.toNat (List.replicate 4 0)).getD a3.toNat 0) != (-1) then
            bif decide (0 ≤ ((a1.getD a2.toNat (List.replicate 4 0)).getD a3.toNat 0)) then
              bif decide (((a1.getD a2.toNat (List.replicate 4 0)).getD a3.toNat 0) < (a0.2.1.length : Int)) then
                (take_open (a0.2.1.getD ((a1.getD a2.toNat (List.replicate 4 0)).getD a3.toNat 0).toNat (0, 0, 0, ()), ())).bind fun y1 =>
                bif y1.1 then
                  some ((a1.getD a2.toNat (List.replicate 4 0)).getD a3.toNat 0, true, ())
                else
                (slices_Clone_int ([], ())).bind fun y2 =>
                (queue_row_Len (y2.1, ())).bind fun y3 =>
                (take_Page_l1 (y3.1, wi64 ((wi64 (y3.1.tdiv 2)) - 1), a0, a1, a3, a0, y2.1, ())).bind fun s5 => match s5 with
                | .out s5 =>
                  (take_Page_l3 (s5.2.2.2.1.2.1, (s5.2.2.2.1.2.1.length : Int), 0, s5.1, s5.2.1, s5.2.2.1, (), s5.2.2.2.2.1, ())).bind fun s10 => match s10 with
                  | .out s10 =>
                    (queue_row_Len (s10.2.2.1, ())).bind fun y11 =>
                    bif y11.1 == 0 then
                      (slices_Clone_int ([], ())).bind fun y12 =>
                      (queue_row_Len (y12.1, ())).bind fun y13 =>
                      (take_Page_l5 (y13.1, wi64 ((wi64 (y13.1.tdiv 2)) - 1), s10.1, y12.1, ())).bind fun s15 => match s15 with
                      | .out s15 =>
                        (take_Page_l7 (s15.1.2.1, (s15.1.2.1.length : Int), 0, (), s15.2.1, ())).bind fun s19 => match s19 with
                        | .out s19 =>
                          (queue_row_Len (s19.2.1, ())).bind fun y20 =>
                          bif y20.1 == 0 then
                            some (0, false, ())
                          else
                          bif decide (0 < (s19.2.1.length : Int)) then
                            some (s19.2.1.getD 0 0, true, ())
                          else none
                        | .ret s19 =>
                          none
                      | .ret s15 =>
                        none
                    else
                    bif decide (0 < (s10.2.2.1.length : Int)) then
                      some (s10.2.2.1.getD 0 0, true, ())
                    else none
                  | .ret s10 =>
                    none
                | .ret s5 =>
                  none
              else none
            else none
          else
          (slices_Clone_int ([], ())).bind fun y21 =>
          (queue_row_Len (y21.1, ())).bind fun y22 =>
          (take_Page_l1 (y22.1, wi64 ((wi64 (y22.1.tdiv 2)) - 1), a0, a1, a3, a0, y21.1, ())).bind fun s23 => match s23 with
          | .out s23 =>
            (take_Page_l3 (s23.2.2.2.1.2.1, (s23.2.2.2.1.2.1.length : Int), 0, s23.1, s23.2.1, s23.2.2.1, (), s23.2.2.2.2.1, ())).bind fun s24 => match s24 with
            | .out s24 =>
              (queue_row_Len (s24.2.2.1, ())).bind fun y25 =>
              bif y25.1 == 0 then
                (slices_Clone_int ([], ())).bind fun y26 =>
                (queue_row_Len (y26.1, ())).bind fun y27 =>
                (take_Page_l5 (y27.1, wi64 ((wi64 (y27.1.tdiv 2)) - 1), s24.1, y26.1, ())).bind fun s28 => match s28 with
                | .out s28 =>
                  (take_Page_l7 (s28.1.2.1, (s28.1.2.1.length : Int), 0, (), s28.2.1, ())).bind fun s29 => match s29 with
                  | .out s29 =>
                    (queue_row_Len (s29.2.1, ())).bind fun y30 =>
                    bif y30.1 == 0 then
                      some (0, false, ())
                    else
                    bif decide (0 < (s29.2.1.length : Int)) then
                      some (s29.2.1.getD 0 0, true, ())
                    else none
                  | .ret s29 =>
                    none
                | .ret s28 =>
                  none
              else
              bif decide (0 < (s24.2.2.1.length : Int)) then
                some (s24.2.2.1.getD 0 0, true, ())
              else none
            | .ret s24 =>
              none
          | .ret s23 =>
            none
        else none
      else none
    else none
  else none
def take_Page (x : Heap × (List (List Int)) × Int × Int × Unit) : Option (Int × Bool × Unit) := take_Page_r x.1 x.2.1 x.2.2.1 x.2.2.2.1
noncomputable def take_Page_sm : Sum := ⟨(.cons cHeap (.cons (.sl (.arr 4 cI)) (.cons cI (.cons cI .nil)))), (.cons (.d cI) (.cons (.d .bool) .nil)), take_Page⟩
noncomputable def take_Page_L0 : LoopSum := { hc := ⟨[], [0, 1, 2, 7], [], [], [0, 16, 32, 480, 608], [592], 928⟩, h := ⟨[(0, (.fn 101 (.cons (.pvar 608 []) .nil) .undef)), (1, (.d cI)), (2, (.d cI)), (7, (.d cI))], [(0, (.d cHeap)), (16, (.d (.sl (.arr 4 cI)))), (32, (.d cI)), (480, (.d cHeap)), (608, (.row 592))], [(592, cI, true)], 928⟩, xid := 0, oc := ⟨[], [1, 7], [], [], [0, 16, 32, 480, 608], [592], 928⟩, o := ⟨[(1, (.d cI)), (7, (.d cI))], [(0, (.d cHeap)), (16, (.d (.sl (.arr 4 cI)))), (32, (.d cI)), (480, (.d cHeap)), (608, (.row 592))], [(592, cI, true)], 928⟩, rc := ⟨[], [], [], [], [928], [], 928⟩, r := ⟨[], [], [], 928⟩, F := take_Page_l0 }
noncomputable def take_Page_L1 : LoopSum := { hc := ⟨[], [0, 2, 3], [], [], [0, 16, 32, 480, 608], [592], 784⟩, h := ⟨[(0, (.fn 101 (.cons (.pvar 608 []) .nil) .undef)), (2, (.d cI)), (3, (.d cI))], [(0, (.d cHeap)), (16, (.d (.sl (.arr 4 cI)))), (32, (.d cI)), (480, (.d cHeap)), (608, (.row 592))], [(592, cI, true)], 784⟩, xid := 0, oc := ⟨[], [], [], [], [0, 16, 32, 480, 608], [592], 784⟩, o := ⟨[], [(0, (.d cHeap)), (16, (.d (.sl (.arr 4 cI)))), (32, (.d cI)), (480, (.d cHeap)), (608, (.row 592))], [(592, cI, true)], 784⟩, rc := ⟨[], [], [], [], [784], [], 784⟩, r := ⟨[], [], [], 784⟩, F := take_Page_l1 }
noncomputable def take_Page_L2 : LoopSum := { hc := ⟨[], [0, 1], [], [], [0, 16, 32, 608, 800], [1793], 1921⟩, h := ⟨[(0, (.fn 101 (.cons (.pvar 608 []) .nil) .undef)), (1, (.d cI))], [(0, (.d cHeap)), (16, (.d (.sl (.arr 4 cI)))), (32, (.d cI)), (608, (.row 1793)), (800, (.cons (.pvar 608 []) (.d .nil)))], [(1793, cI, true)], 1921⟩, xid := 0, oc := ⟨[], [], [], [], [0, 16, 32, 608, 800], [1793], 1921⟩, o := ⟨[], [(0, (.d cHeap)), (16, (.d (.sl (.arr 4 cI)))), (32, (.d cI)), (608, (.row 1793)), (800, (.cons (.pvar 608 []) (.d .nil)))], [(1793, cI, true)], 1921⟩, rc := ⟨[], [], [], [], [1921], [], 1921⟩, r := ⟨[], [], [], 1921⟩, F := take_Page_l2 }
noncomputable def take_Page_L3 : LoopSum := { hc := ⟨[], [1, 6, 11, 12, 13], [(.key 608 [], cI)], [], [0, 16, 32, 608, 800], [], 896⟩, h := ⟨[(1, (.fn 31 .nil (.cons (.pvar 32 []) (.cons (.pvar 16 []) .nil)))), (6, (.pvar 800 [])), (11, (.d (.sl cSpan))), (12, (.d cI)), (13, (.d cI))], [(0, (.d cHeap)), (16, (.d (.sl (.arr 4 cI)))), (32, (.d cI)), (608, (.row 896)), (800, (.cons (.pvar 608 []) (.d .nil)))], [(896, cI, true)], 897⟩, xid := 0, oc := ⟨[], [6], [(.key 608 [], cI)], [], [0, 608, 800], [], 896⟩, o := ⟨[(6, (.pvar 800 []))], [(0, (.d cHeap)), (608, (.row 896)), (800, (.cons (.pvar 608 []) (.d .nil)))], [(896, cI, true)], 897⟩, rc := ⟨[], [], [], [], [896], [], 896⟩, r := ⟨[], [], [], 896⟩, F := take_Page_l3 }
noncomputable def take_Page_L4 : LoopSum := { hc := ⟨[], [0, 1, 2, 7], [], [], [1297, 1425], [1409], 1745⟩, h := ⟨[(0, (.fn 101 (.cons (.pvar 1425 []) .nil) .undef)), (1, (.d cI)), (2, (.d cI)), (7, (.d cI))], [(1297, (.d cHeap)), (1425, (.row 1409))], [(1409, cI, true)], 1745⟩, xid := 0, oc := ⟨[], [1, 7], [], [], [1297, 1425], [1409], 1745⟩, o := ⟨[(1, (.d cI)), (7, (.d cI))], [(1297, (.d cHeap)), (1425, (.row 1409))], [(1409, cI, true)], 1745⟩, rc := ⟨[], [], [], [], [1745], [], 1745⟩, r := ⟨[], [], [], 1745⟩, F := take_Page_l4 }
noncomputable def take_Page_L5 : LoopSum := { hc := ⟨[], [0, 2, 3], [], [], [1297, 1425], [1409], 1601⟩, h := ⟨[(0, (.fn 101 (.cons (.pvar 1425 []) .nil) .undef)), (2, (.d cI)), (3, (.d cI))], [(1297, (.d cHeap)), (1425, (.row 1409))], [(1409, cI, true)], 1601⟩, xid := 0, oc := ⟨[], [], [], [], [1297, 1425], [1409], 1601⟩, o := ⟨[], [(1297, (.d cHeap)), (1425, (.row 1409))], [(1409, cI, true)], 1601⟩, rc := ⟨[], [], [], [], [1601], [], 1601⟩, r := ⟨[], [], [], 1601⟩, F := take_Page_l5 }
noncomputable def take_Page_L6 : LoopSum := { hc := ⟨[], [0, 1], [], [], [1425, 1617], [2338], 2466⟩, h := ⟨[(0, (.fn 101 (.cons (.pvar 1425 []) .nil) .undef)), (1, (.d cI))], [(1425, (.row 2338)), (1617, (.cons (.pvar 1425 []) (.d .nil)))], [(2338, cI, true)], 2466⟩, xid := 0, oc := ⟨[], [], [], [], [1425, 1617], [2338], 2466⟩, o := ⟨[], [(1425, (.row 2338)), (1617, (.cons (.pvar 1425 []) (.d .nil)))], [(2338, cI, true)], 2466⟩, rc := ⟨[], [], [], [], [2466], [], 2466⟩, r := ⟨[], [], [], 2466⟩, F := take_Page_l6 }
noncomputable def take_Page_L7 : LoopSum := { hc := ⟨[], [1, 6, 11, 12, 13], [(.key 1425 [], cI)], [], [1425, 1617], [], 1713⟩, h := ⟨[(1, (.fn 32 .nil .nil)), (6, (.pvar 1617 [])), (11, (.d (.sl cSpan))), (12, (.d cI)), (13, (.d cI))], [(1425, (.row 1713)), (1617, (.cons (.pvar 1425 []) (.d .nil)))], [(1713, cI, true)], 1714⟩, xid := 0, oc := ⟨[], [6], [(.key 1425 [], cI)], [], [1425, 1617], [], 1713⟩, o := ⟨[(6, (.pvar 1617 []))], [(1425, (.row 1713)), (1617, (.cons (.pvar 1425 []) (.d .nil)))], [(1713, cI, true)], 1714⟩, rc := ⟨[], [], [], [], [1713], [], 1713⟩, r := ⟨[], [], [], 1713⟩, F := take_Page_l7 }
noncomputable def take_Page_S : List (Nat × Sum) := [(13, take_Kept_sm), (29, take_open_sm), (32, take_Page_2_sm), (73, slices_Clone_int_sm), (76, queue_row_Len_sm)]
noncomputable def take_Page_fl : List (Nat × Func) := [(30, Go.Proofs.Tryd.f30), (31, Go.Proofs.Tryd.f31), (53, Go.Proofs.Tryd.f53), (54, Go.Proofs.Tryd.f54), (55, Go.Proofs.Tryd.f55), (74, Go.Proofs.Tryd.f74), (75, Go.Proofs.Tryd.f75), (89, Go.Proofs.Tryd.f89), (90, Go.Proofs.Tryd.f90), (112, Go.Proofs.Tryd.f112), (113, Go.Proofs.Tryd.f113), (114, Go.Proofs.Tryd.f114)]
noncomputable def take_Page_es : List AE := [⟨4, 89, 880, 0, take_Page_L0⟩, ⟨5, 74, 672, 0, take_Page_L1⟩, ⟨4, 90, 1921, 0, take_Page_L2⟩, ⟨7, 30, 480, 0, take_Page_L3⟩, ⟨4, 89, 1697, 0, take_Page_L4⟩, ⟨5, 74, 1489, 0, take_Page_L5⟩, ⟨4, 90, 2466, 0, take_Page_L6⟩, ⟨7, 30, 1297, 0, take_Page_L7⟩]
theorem take_Page_den0 : (fun x => denStep TEv (look1 take_Page_S) (look1 take_Page_fl) (annOf take_Page_es) 4 89 Go.Proofs.Tryd.f89.ntmps 880 (cat (bodyOf Go.Proofs.Tryd.f89) [true, true, false, false, false]) take_Page_L0 x) = take_Page_s0 := by kernel_rfl
theorem take_Page_den1 : (fun x => denStep TEv (look1 take_Page_S) (look1 take_Page_fl) (annOf take_Page_es) 5 74 Go.Proofs.Tryd.f74.ntmps 672 (cat (bodyOf Go.Proofs.Tryd.f74) [true, true, false, false]) take_Page_L1 x) = take_Page_s1 := by kernel_rfl
theorem take_Page_den2 : (fun x => denStep TEv (look1 take_Page_S) (look1 take_Page_fl) (annOf take_Page_es) 4 90 Go.Proofs.Tryd.f90.ntmps 1921 (cat (bodyOf Go.Proofs.Tryd.f90) [false, false]) take_Page_L2 x) = take_Page_s2 := by kernel_rfl
theorem take_Page_den3 : (fun x => denStep TEv (look1 take_Page_S) (look1 take_Page_fl) (annOf take_Page_es) 7 30 Go.Proofs.Tryd.f30.ntmps 480 (cat (bodyOf Go.Proofs.Tryd.f30) [true, true, false, true, false, false]) take_Page_L3 x) = take_Page_s3 := by kernel_rfl
theorem take_Page_den4 : (fun x => denStep TEv (look1 take_Page_S) (look1 take_Page_fl) (annOf take_Page_es) 4 89 Go.Proofs.Tryd.f89.ntmps 1697 (cat (bodyOf Go.Proofs.Tryd.f89) [true, true, false, false, false]) take_Page_L4 x) = take_Page_s4 := by kernel_rfl
theorem take_Page_den5 : (fun x => denStep TEv (look1 take_Page_S) (look1 take_Page_fl) (annOf take_Page_es) 5 74 Go.Proofs.Tryd.f74.ntmps 1489 (cat (bodyOf Go.Proofs.Tryd.f74) [true, true, false, false]) take_Page_L5 x) = take_Page_s5 := by kernel_rfl
theorem take_Page_den6 : (fun x => denStep TEv (look1 take_Page_S) (look1 take_Page_fl) (annOf take_Page_es) 4 90 Go.Proofs.Tryd.f90.ntmps 2466 (cat (bodyOf Go.Proofs.Tryd.f90) [false, false]) take_Page_L6 x) = take_Page_s6 := by kernel_rfl
theorem take_Page_den7 : (fun x => denStep TEv (look1 take_Page_S) (look1 take_Page_fl) (annOf take_Page_es) 7 30 Go.Proofs.Tryd.f30.ntmps 1297 (cat (bodyOf Go.Proofs.Tryd.f30) [true, true, false, true, false, false]) take_Page_L7 x) = take_Page_s7 := by kernel_rfl
theorem take_Page_den : (fun x => denFun TEv (look1 take_Page_S) (look1 take_Page_fl) (annOf take_Page_es) 8 16 Go.Proofs.Tryd.f16 take_Page_sm.a take_Page_sm.r x) = take_Page_sm.F := by kernel_rfl
theorem take_Page_ok0 : AEok Go.Proofs.Tryd.prog TEv (look1 take_Page_S) (look1 take_Page_fl) (annOf take_Page_es) ⟨4, 89, 880, 0, take_Page_L0⟩ := aeok_of 9223372036854775808 Go.Proofs.Tryd.func89 (by kernel_rfl) take_Page_den0 (by kernel_rfl)
theorem take_Page_ok1 : AEok Go.Proofs.Tryd.prog TEv (look1 take_Page_S) (look1 take_Page_fl) (annOf take_Page_es) ⟨5, 74, 672, 0, take_Page_L1⟩ := aeok_of 9223372036854775808 Go.Proofs.Tryd.func74 (by kernel_rfl) take_Page_den1 (by kernel_rfl)
theorem take_Page_ok2 : AEok Go.Proofs.Tryd.prog TEv (look1 take_Page_S) (look1 take_Page_fl) (annOf take_Page_es) ⟨4, 90, 1921, 0, take_Page_L2⟩ := aeok_of 9223372036854775808 Go.Proofs.Tryd.func90 (by kernel_rfl) take_Page_den2 (by kernel_rfl)
theorem take_Page_ok3 : AEok Go.Proofs.Tryd.prog TEv (look1 take_Page_S) (look1 take_Page_fl) (annOf take_Page_es) ⟨7, 30, 480, 0, take_Page_L3⟩ := aeok_of 9223372036854775808 Go.Proofs.Tryd.func30 (by kernel_rfl) take_Page_den3 (by kernel_rfl)
theorem take_Page_ok4 : AEok Go.Proofs.Tryd.prog TEv (look1 take_Page_S) (look1 take_Page_fl) (annOf take_Page_es) ⟨4, 89, 1697, 0, take_Page_L4⟩ := aeok_of 9223372036854775808 Go.Proofs.Tryd.func89 (by kernel_rfl) take_Page_den4 (by kernel_rfl)
theorem take_Page_ok5 : AEok Go.Proofs.Tryd.prog TEv (look1 take_Page_S) (look1 take_Page_fl) (annOf take_Page_es) ⟨5, 74, 1489, 0, take_Page_L5⟩ := aeok_of 9223372036854775808 Go.Proofs.Tryd.func74 (by kernel_rfl) take_Page_den5 (by kernel_rfl)
theorem take_Page_ok6 : AEok Go.Proofs.Tryd.prog TEv (look1 take_Page_S) (look1 take_Page_fl) (annOf take_Page_es) ⟨4, 90, 2466, 0, take_Page_L6⟩ := aeok_of 9223372036854775808 Go.Proofs.Tryd.func90 (by kernel_rfl) take_Page_den6 (by kernel_rfl)
theorem take_Page_ok7 : AEok Go.Proofs.Tryd.prog TEv (look1 take_Page_S) (look1 take_Page_fl) (annOf take_Page_es) ⟨7, 30, 1297, 0, take_Page_L7⟩ := aeok_of 9223372036854775808 Go.Proofs.Tryd.func30 (by kernel_rfl) take_Page_den7 (by kernel_rfl)
theorem take_Page_sem : SemOf Go.Proofs.Tryd.prog 16 take_Page_sm :=
  semMk teOk (sl := take_Page_S) (all_cons take_Kept_sem (all_cons take_open_sem (all_cons take_Page_2_sem (all_cons slices_Clone_int_sem (all_cons queue_row_Len_sem all_nil))))) (fl := take_Page_fl) (all_cons ⟨Go.Proofs.Tryd.func30, by kernel_rfl⟩ (all_cons ⟨Go.Proofs.Tryd.func31, by kernel_rfl⟩ (all_cons ⟨Go.Proofs.Tryd.func53, by kernel_rfl⟩ (all_cons ⟨Go.Proofs.Tryd.func54, by kernel_rfl⟩ (all_cons ⟨Go.Proofs.Tryd.func55, by kernel_rfl⟩ (all_cons ⟨Go.Proofs.Tryd.func74, by kernel_rfl⟩ (all_cons ⟨Go.Proofs.Tryd.func75, by kernel_rfl⟩ (all_cons ⟨Go.Proofs.Tryd.func89, by kernel_rfl⟩ (all_cons ⟨Go.Proofs.Tryd.func90, by kernel_rfl⟩ (all_cons ⟨Go.Proofs.Tryd.func112, by kernel_rfl⟩ (all_cons ⟨Go.Proofs.Tryd.func113, by kernel_rfl⟩ (all_cons ⟨Go.Proofs.Tryd.func114, by kernel_rfl⟩ (all_nil))))))))))))) (es := take_Page_es) Go.Proofs.Tryd.func16 (by kernel_rfl) rfl (all_cons take_Page_ok0 (all_cons take_Page_ok1 (all_cons take_Page_ok2 (all_cons take_Page_ok3 (all_cons take_Page_ok4 (all_cons take_Page_ok5 (all_cons take_Page_ok6 (all_cons take_Page_ok7 (all_nil))))))))) rfl take_Page_den
end Go.Proofs.YtebdioogklmeaaaDoor.Den
