/- What functions come to. Printed by a program of this session. -/
import Derived.Test.YtdiogegolnoeoaaDoorDenF1
namespace Go.Proofs.YtdiogegolnoeoaaDoor.Den
open Go
set_option maxRecDepth 100000
set_option linter.unusedVariables false
/-! ### flotsam/flotsamref07.Find -/
def flotsamref07_Find_s0r (v1 : Int) (v7 : Int) (v8 : Int) (c0 : Heap) : Option (SRes (.cons cI (.cons cI (.cons cI (.cons cHeap .nil)))) (.cons cI (.cons cI (.cons cHeap .nil))) (.cons cI (.cons cI (.cons .bool .nil)))) :=
  bif decide (0 ≤ v7) then
    bif decide (v7 < (c0.2.1.length : Int)) then
      (flotsamref04_Blocks ((c0.2.1.getD v7.toNat (0, 0, 0, ())).2.1, ())).bind fun y1 =>
      bif decide (v8 < y1.1) then
        bif decide (0 ≤ v7) then
          bif decide (v7 < (c0.2.1.length : Int)) then
            (flotsamref04_Words ((c0.2.1.getD v7.toNat (0, 0, 0, ())).2.1, ())).bind fun y2 =>
            bif (wi64 ((wi64 (32 * v7)) + (wi64 (v8 * y2.1)))) == v1 then
              some (.fin (.ret (v7, v8, true, ())))
            else
            some (.next (v1, v7, wi64 (v8 + 1), c0, ()))
          else none
        else none
      else
      some (.fin (.out (v1, v7, c0, ())))
    else none
  else none
def flotsamref07_Find_s0 (x : Int × Int × Int × Heap × Unit) : Option (SRes (.cons cI (.cons cI (.cons cI (.cons cHeap .nil)))) (.cons cI (.cons cI (.cons cHeap .nil))) (.cons cI (.cons cI (.cons .bool .nil)))) := flotsamref07_Find_s0r x.1 x.2.1 x.2.2.1 x.2.2.2.1
def flotsamref07_Find_l0 (x : Int × Int × Int × Heap × Unit) : Option (LRes (.cons cI (.cons cI (.cons cHeap .nil))) (.cons cI (.cons cI (.cons .bool .nil)))) := iterL (h := (.cons cI (.cons cI (.cons cI (.cons cHeap .nil))))) (o := (.cons cI (.cons cI (.cons cHeap .nil)))) (r := (.cons cI (.cons cI (.cons .bool .nil)))) flotsamref07_Find_s0 9223372036854775808 x
def flotsamref07_Find_s1r (v1 : Int) (v7 : Int) (c0 : Heap) : Option (SRes (.cons cI (.cons cI (.cons cHeap .nil))) .nil (.cons cI (.cons cI (.cons .bool .nil)))) :=
  bif decide (v7 < (c0.2.1.length : Int)) then
    bif decide (0 ≤ v7) then
      bif decide (v7 < (c0.2.1.length : Int)) then
        bif (c0.2.1.getD v7.toNat (0, 0, 0, ())).1 == 0 then
          some (.next (v1, wi64 (v7 + 1), c0, ()))
        else
        (flotsamref07_Find_l0 (v1, v7, 0, c0, ())).bind fun s3 => match s3 with
        | .out s3 =>
          some (.next (s3.1, wi64 (s3.2.1 + 1), s3.2.2.1, ()))
        | .ret s3 =>
          some (.fin (.ret (s3.1, s3.2.1, s3.2.2.1, ())))
      else none
    else none
  else
  some (.fin (.out ()))
def flotsamref07_Find_s1 (x : Int × Int × Heap × Unit) : Option (SRes (.cons cI (.cons cI (.cons cHeap .nil))) .nil (.cons cI (.cons cI (.cons .bool .nil)))) := flotsamref07_Find_s1r x.1 x.2.1 x.2.2.1
def flotsamref07_Find_l1 (x : Int × Int × Heap × Unit) : Option (LRes .nil (.cons cI (.cons cI (.cons .bool .nil)))) := iterL (h := (.cons cI (.cons cI (.cons cHeap .nil)))) (o := .nil) (r := (.cons cI (.cons cI (.cons .bool .nil)))) flotsamref07_Find_s1 9223372036854775808 x
def flotsamref07_Find_r (a0 : Heap) (a1 : Int) : Option (Int × Int × Bool × Unit) :=
  (flotsamref07_Find_l1 (a1, 0, a0, ())).bind fun s4 => match s4 with
  | .out s4 =>
    some (0, 0, false, ())
  | .ret s4 =>
    some (s4.1, s4.2.1, s4.2.2.1, ())
def flotsamref07_Find (x : Heap × Int × Unit) : Option (Int × Int × Bool × Unit) := flotsamref07_Find_r x.1 x.2.1
noncomputable def flotsamref07_Find_sm : Sum := ⟨(.cons cHeap (.cons cI .nil)), (.cons (.d cI) (.cons (.d cI) (.cons (.d .bool) .nil))), flotsamref07_Find⟩
noncomputable def flotsamref07_Find_L0 : LoopSum := { hc := ⟨[], [1, 2, 7, 8], [], [], [0], [], 288⟩, h := ⟨[(1, (.d cI)), (2, (.pvar 0 [])), (7, (.d cI)), (8, (.d cI))], [(0, (.d cHeap))], [], 288⟩, xid := 2, oc := ⟨[], [1, 2, 7], [], [], [0], [], 288⟩, o := ⟨[(1, (.d cI)), (2, (.pvar 0 [])), (7, (.d cI))], [(0, (.d cHeap))], [], 288⟩, rc := ⟨[], [4, 5, 6], [], [], [], [], 288⟩, r := ⟨[(4, (.d cI)), (5, (.d cI)), (6, (.d .bool))], [], [], 288⟩, F := flotsamref07_Find_l0 }
noncomputable def flotsamref07_Find_L1 : LoopSum := { hc := ⟨[], [1, 2, 7], [], [], [0], [], 80⟩, h := ⟨[(1, (.d cI)), (2, (.pvar 0 [])), (7, (.d cI))], [(0, (.d cHeap))], [], 80⟩, xid := 0, oc := ⟨[], [], [], [], [], [], 80⟩, o := ⟨[], [], [], 80⟩, rc := ⟨[], [4, 5, 6], [], [], [], [], 80⟩, r := ⟨[(4, (.d cI)), (5, (.d cI)), (6, (.d .bool))], [], [], 80⟩, F := flotsamref07_Find_l1 }
noncomputable def flotsamref07_Find_S : List (Nat × Sum) := [(74, flotsamref04_Blocks_sm), (94, flotsamref04_Words_sm)]
noncomputable def flotsamref07_Find_fl : List (Nat × Func) := []
noncomputable def flotsamref07_Find_es : List AE := [⟨8, 62, 0, 2, flotsamref07_Find_L0⟩, ⟨8, 62, 0, 0, flotsamref07_Find_L1⟩]
theorem flotsamref07_Find_den0 : (fun x => denStep TEv (look1 flotsamref07_Find_S) (look1 flotsamref07_Find_fl) (annOf flotsamref07_Find_es) 8 62 Go.Proofs.Tryd.f62.ntmps 0 (cat (bodyOf Go.Proofs.Tryd.f62) [true, false, true, false, false, true, false, false, true, true, false, false]) flotsamref07_Find_L0 x) = flotsamref07_Find_s0 := by kernel_rfl
theorem flotsamref07_Find_den1 : (fun x => denStep TEv (look1 flotsamref07_Find_S) (look1 flotsamref07_Find_fl) (annOf flotsamref07_Find_es) 8 62 Go.Proofs.Tryd.f62.ntmps 0 (cat (bodyOf Go.Proofs.Tryd.f62) [true, false, true, false, false]) flotsamref07_Find_L1 x) = flotsamref07_Find_s1 := by kernel_rfl
theorem flotsamref07_Find_den : (fun x => denFun TEv (look1 flotsamref07_Find_S) (look1 flotsamref07_Find_fl) (annOf flotsamref07_Find_es) 8 62 Go.Proofs.Tryd.f62 flotsamref07_Find_sm.a flotsamref07_Find_sm.r x) = flotsamref07_Find_sm.F := by kernel_rfl
theorem flotsamref07_Find_ok0 : AEok Go.Proofs.Tryd.prog TEv (look1 flotsamref07_Find_S) (look1 flotsamref07_Find_fl) (annOf flotsamref07_Find_es) ⟨8, 62, 0, 2, flotsamref07_Find_L0⟩ := aeok_of 9223372036854775808 Go.Proofs.Tryd.func62 (by kernel_rfl) flotsamref07_Find_den0 (by kernel_rfl)
theorem flotsamref07_Find_ok1 : AEok Go.Proofs.Tryd.prog TEv (look1 flotsamref07_Find_S) (look1 flotsamref07_Find_fl) (annOf flotsamref07_Find_es) ⟨8, 62, 0, 0, flotsamref07_Find_L1⟩ := aeok_of 9223372036854775808 Go.Proofs.Tryd.func62 (by kernel_rfl) flotsamref07_Find_den1 (by kernel_rfl)
theorem flotsamref07_Find_sem : SemOf Go.Proofs.Tryd.prog 62 flotsamref07_Find_sm :=
  semMk teOk (sl := flotsamref07_Find_S) (all_cons flotsamref04_Blocks_sem (all_cons flotsamref04_Words_sem all_nil)) (fl := flotsamref07_Find_fl) (all_nil) (es := flotsamref07_Find_es) Go.Proofs.Tryd.func62 (by kernel_rfl) rfl (rng_none (by kernel_rfl) (by kernel_rfl)) (all_cons flotsamref07_Find_ok0 (all_cons flotsamref07_Find_ok1 (all_nil))) rfl flotsamref07_Find_den

/-! ### flotsam/flotsamref03.With -/
def flotsamref03_With_r (a0 : Int) (a1 : Int) : Option (Int × Unit) :=
  (flotsamref03_turned (a0, a1, true, ())).bind fun y1 =>
  some (y1.1, ())
def flotsamref03_With (x : Int × Int × Unit) : Option (Int × Unit) := flotsamref03_With_r x.1 x.2.1
noncomputable def flotsamref03_With_sm : Sum := ⟨(.cons (.int .u32) (.cons cI .nil)), (.cons (.d (.int .u32)) .nil), flotsamref03_With⟩
noncomputable def flotsamref03_With_S : List (Nat × Sum) := [(144, flotsamref03_turned_sm)]
noncomputable def flotsamref03_With_fl : List (Nat × Func) := []
noncomputable def flotsamref03_With_es : List AE := []
theorem flotsamref03_With_den : (fun x => denFun TEv (look1 flotsamref03_With_S) (look1 flotsamref03_With_fl) (annOf flotsamref03_With_es) 8 136 Go.Proofs.Tryd.f136 flotsamref03_With_sm.a flotsamref03_With_sm.r x) = flotsamref03_With_sm.F := by kernel_rfl
theorem flotsamref03_With_sem : SemOf Go.Proofs.Tryd.prog 136 flotsamref03_With_sm :=
  semMk teOk (sl := flotsamref03_With_S) (all_cons flotsamref03_turned_sem all_nil) (fl := flotsamref03_With_fl) (all_nil) (es := flotsamref03_With_es) Go.Proofs.Tryd.func136 (by kernel_rfl) rfl (rng_none (by kernel_rfl) (by kernel_rfl)) (all_nil) rfl flotsamref03_With_den

/-! ### flotsam/flotsamref06.Give -/
def flotsamref06_Give_r (a0 : Span) (a1 : Int) : Option (Span × Bool × Unit) :=
  (flotsamref06_InUse (a0, ())).bind fun y1 =>
  bif !y1.1 then
    some (a0, false, ())
  else
  bif decide (a1 < 0) then
    some (a0, false, ())
  else
  (flotsamref04_Blocks (a0.2.1, ())).bind fun y2 =>
  bif decide (a1 ≥ y2.1) then
    some (a0, false, ())
  else
  (flotsamref03_Has (a0.2.2.1, a1, ())).bind fun y3 =>
  bif y3.1 then
    some (a0, false, ())
  else
  (flotsamref03_With (a0.2.2.1, a1, ())).bind fun y4 =>
  some ((a0.1, a0.2.1, y4.1, a0.2.2.2), true, ())
def flotsamref06_Give (x : Span × Int × Unit) : Option (Span × Bool × Unit) := flotsamref06_Give_r x.1 x.2.1
noncomputable def flotsamref06_Give_sm : Sum := ⟨(.cons cSpan (.cons cI .nil)), (.cons (.d cSpan) (.cons (.d .bool) .nil)), flotsamref06_Give⟩
noncomputable def flotsamref06_Give_S : List (Nat × Sum) := [(73, flotsamref06_InUse_sm), (74, flotsamref04_Blocks_sm), (75, flotsamref03_Has_sm), (136, flotsamref03_With_sm)]
noncomputable def flotsamref06_Give_fl : List (Nat × Func) := []
noncomputable def flotsamref06_Give_es : List AE := []
theorem flotsamref06_Give_den : (fun x => denFun TEv (look1 flotsamref06_Give_S) (look1 flotsamref06_Give_fl) (annOf flotsamref06_Give_es) 8 113 Go.Proofs.Tryd.f113 flotsamref06_Give_sm.a flotsamref06_Give_sm.r x) = flotsamref06_Give_sm.F := by kernel_rfl
theorem flotsamref06_Give_sem : SemOf Go.Proofs.Tryd.prog 113 flotsamref06_Give_sm :=
  semMk teOk (sl := flotsamref06_Give_S) (all_cons flotsamref06_InUse_sem (all_cons flotsamref04_Blocks_sem (all_cons flotsamref03_Has_sem (all_cons flotsamref03_With_sem all_nil)))) (fl := flotsamref06_Give_fl) (all_nil) (es := flotsamref06_Give_es) Go.Proofs.Tryd.func113 (by kernel_rfl) rfl (rng_none (by kernel_rfl) (by kernel_rfl)) (all_nil) rfl flotsamref06_Give_den

/-! ### flotsam/flotsamref07.Free -/
def flotsamref07_Free_s0r (v1 : Int) (v12 : Int) (c16 : Bool × Unit) (c400 : Span) (c544 : Bool × Unit) (r528 : List Int) (r529 : List Span) : Option (SRes (.cons cI (.cons cI (.cons (.cons .bool .nil) (.cons cSpan (.cons (.cons .bool .nil) (.cons (.sl (.int .u64)) (.cons (.sl cSpan) .nil))))))) (.cons (.cons .bool .nil) (.cons (.cons .bool .nil) (.cons (.sl (.int .u64)) (.cons (.sl cSpan) .nil)))) .nil) :=
  (flotsamref04_Words (c400.2.1, ())).bind fun y4 =>
  bif decide (v12 < y4.1) then
    bif decide (0 ≤ (wi64 (v1 + v12))) then
      bif decide ((wi64 (v1 + v12)) < (r528.length : Int)) then
        some (.next (v1, wi64 (v12 + 1), c16, c400, c544, r528.set (wi64 (v1 + v12)).toNat 0, r529, ()))
      else none
    else none
  else
  some (.fin (.out (c16, c544, r528, r529, ())))
def flotsamref07_Free_s0 (x : Int × Int × (Bool × Unit) × Span × (Bool × Unit) × (List Int) × (List Span) × Unit) : Option (SRes (.cons cI (.cons cI (.cons (.cons .bool .nil) (.cons cSpan (.cons (.cons .bool .nil) (.cons (.sl (.int .u64)) (.cons (.sl cSpan) .nil))))))) (.cons (.cons .bool .nil) (.cons (.cons .bool .nil) (.cons (.sl (.int .u64)) (.cons (.sl cSpan) .nil)))) .nil) := flotsamref07_Free_s0r x.1 x.2.1 x.2.2.1 x.2.2.2.1 x.2.2.2.2.1 x.2.2.2.2.2.1 x.2.2.2.2.2.2.1
def flotsamref07_Free_l0 (x : Int × Int × (Bool × Unit) × Span × (Bool × Unit) × (List Int) × (List Span) × Unit) : Option (LRes (.cons (.cons .bool .nil) (.cons (.cons .bool .nil) (.cons (.sl (.int .u64)) (.cons (.sl cSpan) .nil)))) .nil) := iterL (h := (.cons cI (.cons cI (.cons (.cons .bool .nil) (.cons cSpan (.cons (.cons .bool .nil) (.cons (.sl (.int .u64)) (.cons (.sl cSpan) .nil)))))))) (o := (.cons (.cons .bool .nil) (.cons (.cons .bool .nil) (.cons (.sl (.int .u64)) (.cons (.sl cSpan) .nil))))) (r := .nil) flotsamref07_Free_s0 9223372036854775808 x
def flotsamref07_Free_r (a0 : Heap) (a1 : Int) : Option (Heap × Bool × Unit) :=
  (flotsamref07_Find (a0, a1, ())).bind fun y1 =>
  bif !y1.2.2.1 then
    some (a0, false, ())
  else
  bif decide (0 ≤ y1.1) then
    bif decide (y1.1 < (a0.2.1.length : Int)) then
      (flotsamref06_Give (a0.2.1.getD y1.1.toNat (0, 0, 0, ()), y1.2.1, ())).bind fun y2 =>
      bif !y2.2.1 then
        some (a0, false, ())
      else
      (flotsamref07_with (a0, y1.1, y2.1, ())).bind fun y3 =>
      (flotsamref07_Free_l0 (a1, 0, (false, ()), y2.1, y3.1.2.2, y3.1.1, y3.1.2.1, ())).bind fun s5 => match s5 with
      | .out s5 =>
        some ((s5.2.2.1, s5.2.2.2.1, s5.2.1), true, ())
      | .ret s5 =>
        none
    else none
  else none
def flotsamref07_Free (x : Heap × Int × Unit) : Option (Heap × Bool × Unit) := flotsamref07_Free_r x.1 x.2.1
noncomputable def flotsamref07_Free_sm : Sum := ⟨(.cons cHeap (.cons cI .nil)), (.cons (.d cHeap) (.cons (.d .bool) .nil)), flotsamref07_Free⟩
noncomputable def flotsamref07_Free_L0 : LoopSum := { hc := ⟨[], [1, 4, 9, 11, 12], [], [], [16, 400, 544], [528, 529], 592⟩, h := ⟨[(1, (.d cI)), (4, (.pvar 16 [])), (9, (.pvar 400 [])), (11, (.pvar 544 [])), (12, (.d cI))], [(16, (.cons .nilsl (.cons .nilsl (.d (.cons .bool .nil))))), (400, (.d cSpan)), (544, (.cons (.row 528) (.cons (.row 529) (.d (.cons .bool .nil)))))], [(528, (.int .u64), true), (529, cSpan, true)], 592⟩, xid := 0, oc := ⟨[], [4, 11], [], [], [16, 544], [528, 529], 592⟩, o := ⟨[(4, (.pvar 16 [])), (11, (.pvar 544 []))], [(16, (.cons .nilsl (.cons .nilsl (.d (.cons .bool .nil))))), (544, (.cons (.row 528) (.cons (.row 529) (.d (.cons .bool .nil)))))], [(528, (.int .u64), true), (529, cSpan, true)], 592⟩, rc := ⟨[], [], [], [], [592], [], 592⟩, r := ⟨[], [], [], 592⟩, F := flotsamref07_Free_l0 }
noncomputable def flotsamref07_Free_S : List (Nat × Sum) := [(62, flotsamref07_Find_sm), (94, flotsamref04_Words_sm), (109, flotsamref07_with_sm), (113, flotsamref06_Give_sm)]
noncomputable def flotsamref07_Free_fl : List (Nat × Func) := []
noncomputable def flotsamref07_Free_es : List AE := [⟨8, 90, 0, 0, flotsamref07_Free_L0⟩]
theorem flotsamref07_Free_den0 : (fun x => denStep TEv (look1 flotsamref07_Free_S) (look1 flotsamref07_Free_fl) (annOf flotsamref07_Free_es) 8 90 Go.Proofs.Tryd.f90.ntmps 0 (cat (bodyOf Go.Proofs.Tryd.f90) [true, true, true, true, true, true, false, true, false, false]) flotsamref07_Free_L0 x) = flotsamref07_Free_s0 := by kernel_rfl
theorem flotsamref07_Free_den : (fun x => denFun TEv (look1 flotsamref07_Free_S) (look1 flotsamref07_Free_fl) (annOf flotsamref07_Free_es) 8 90 Go.Proofs.Tryd.f90 flotsamref07_Free_sm.a flotsamref07_Free_sm.r x) = flotsamref07_Free_sm.F := by kernel_rfl
theorem flotsamref07_Free_ok0 : AEok Go.Proofs.Tryd.prog TEv (look1 flotsamref07_Free_S) (look1 flotsamref07_Free_fl) (annOf flotsamref07_Free_es) ⟨8, 90, 0, 0, flotsamref07_Free_L0⟩ := aeok_of 9223372036854775808 Go.Proofs.Tryd.func90 (by kernel_rfl) flotsamref07_Free_den0 (by kernel_rfl)
theorem flotsamref07_Free_sem : SemOf Go.Proofs.Tryd.prog 90 flotsamref07_Free_sm :=
  semMk teOk (sl := flotsamref07_Free_S) (all_cons flotsamref07_Find_sem (all_cons flotsamref04_Words_sem (all_cons flotsamref07_with_sem (all_cons flotsamref06_Give_sem all_nil)))) (fl := flotsamref07_Free_fl) (all_nil) (es := flotsamref07_Free_es) Go.Proofs.Tryd.func90 (by kernel_rfl) rfl (rng_none (by kernel_rfl) (by kernel_rfl)) (all_cons flotsamref07_Free_ok0 (all_nil)) rfl flotsamref07_Free_den

/-! ### flotsam/flotsamref03.Count -/
def flotsamref03_Count_s0r (v0 : Int) (v3 : Int) (v4 : Int) : Option (SRes (.cons (.int .u32) cVal) (.cons cI .nil) .nil) :=
  bif decide (v4 < 32) then
    (flotsamref03_Has (v0, v4, ())).bind fun y1 =>
    bif y1.1 then
      some (.next (v0, wi64 (v3 + 1), wi64 (v4 + 1), ()))
    else
    some (.next (v0, v3, wi64 (v4 + 1), ()))
  else
  some (.fin (.out (v3, ())))
def flotsamref03_Count_s0 (x : Int × Val) : Option (SRes (.cons (.int .u32) cVal) (.cons cI .nil) .nil) := flotsamref03_Count_s0r x.1 x.2.1 x.2.2.1
def flotsamref03_Count_l0 (x : Int × Val) : Option (LRes (.cons cI .nil) .nil) := iterL (h := (.cons (.int .u32) cVal)) (o := (.cons cI .nil)) (r := .nil) flotsamref03_Count_s0 9223372036854775808 x
def flotsamref03_Count_r (a0 : Int) : Option (Int × Unit) :=
  (flotsamref03_Count_l0 (a0, 0, 0, ())).bind fun s2 => match s2 with
  | .out s2 =>
    some (s2.1, ())
  | .ret s2 =>
    none
def flotsamref03_Count (x : Int × Unit) : Option (Int × Unit) := flotsamref03_Count_r x.1
noncomputable def flotsamref03_Count_sm : Sum := ⟨(.cons (.int .u32) .nil), (.cons (.d cI) .nil), flotsamref03_Count⟩
noncomputable def flotsamref03_Count_L0 : LoopSum := { hc := ⟨[], [0, 3, 4], [], [], [], [], 48⟩, h := ⟨[(0, (.d (.int .u32))), (3, (.d cI)), (4, (.d cI))], [], [], 48⟩, xid := 0, oc := ⟨[], [3], [], [], [], [], 48⟩, o := ⟨[(3, (.d cI))], [], [], 48⟩, rc := ⟨[], [], [], [], [48], [], 48⟩, r := ⟨[], [], [], 48⟩, F := flotsamref03_Count_l0 }
noncomputable def flotsamref03_Count_S : List (Nat × Sum) := [(75, flotsamref03_Has_sm)]
noncomputable def flotsamref03_Count_fl : List (Nat × Func) := []
noncomputable def flotsamref03_Count_es : List AE := [⟨8, 137, 0, 0, flotsamref03_Count_L0⟩]
theorem flotsamref03_Count_den0 : (fun x => denStep TEv (look1 flotsamref03_Count_S) (look1 flotsamref03_Count_fl) (annOf flotsamref03_Count_es) 8 137 Go.Proofs.Tryd.f137.ntmps 0 (cat (bodyOf Go.Proofs.Tryd.f137) [true, true, false, true, false, false]) flotsamref03_Count_L0 x) = flotsamref03_Count_s0 := by kernel_rfl
theorem flotsamref03_Count_den : (fun x => denFun TEv (look1 flotsamref03_Count_S) (look1 flotsamref03_Count_fl) (annOf flotsamref03_Count_es) 8 137 Go.Proofs.Tryd.f137 flotsamref03_Count_sm.a flotsamref03_Count_sm.r x) = flotsamref03_Count_sm.F := by kernel_rfl
theorem flotsamref03_Count_ok0 : AEok Go.Proofs.Tryd.prog TEv (look1 flotsamref03_Count_S) (look1 flotsamref03_Count_fl) (annOf flotsamref03_Count_es) ⟨8, 137, 0, 0, flotsamref03_Count_L0⟩ := aeok_of 9223372036854775808 Go.Proofs.Tryd.func137 (by kernel_rfl) flotsamref03_Count_den0 (by kernel_rfl)
theorem flotsamref03_Count_sem : SemOf Go.Proofs.Tryd.prog 137 flotsamref03_Count_sm :=
  semMk teOk (sl := flotsamref03_Count_S) (all_cons flotsamref03_Has_sem all_nil) (fl := flotsamref03_Count_fl) (all_nil) (es := flotsamref03_Count_es) Go.Proofs.Tryd.func137 (by kernel_rfl) rfl (rng_none (by kernel_rfl) (by kernel_rfl)) (all_cons flotsamref03_Count_ok0 (all_nil)) rfl flotsamref03_Count_den

/-! ### flotsam/flotsamref06.Free -/
def flotsamref06_Free_r (a0 : Span) : Option (Int × Unit) :=
  (flotsamref03_Count (a0.2.2.1, ())).bind fun y1 =>
  some (y1.1, ())
def flotsamref06_Free (x : Span × Unit) : Option (Int × Unit) := flotsamref06_Free_r x.1
noncomputable def flotsamref06_Free_sm : Sum := ⟨(.cons cSpan .nil), (.cons (.d cI) .nil), flotsamref06_Free⟩
noncomputable def flotsamref06_Free_S : List (Nat × Sum) := [(137, flotsamref03_Count_sm)]
noncomputable def flotsamref06_Free_fl : List (Nat × Func) := []
noncomputable def flotsamref06_Free_es : List AE := []
theorem flotsamref06_Free_den : (fun x => denFun TEv (look1 flotsamref06_Free_S) (look1 flotsamref06_Free_fl) (annOf flotsamref06_Free_es) 8 114 Go.Proofs.Tryd.f114 flotsamref06_Free_sm.a flotsamref06_Free_sm.r x) = flotsamref06_Free_sm.F := by kernel_rfl
theorem flotsamref06_Free_sem : SemOf Go.Proofs.Tryd.prog 114 flotsamref06_Free_sm :=
  semMk teOk (sl := flotsamref06_Free_S) (all_cons flotsamref03_Count_sem all_nil) (fl := flotsamref06_Free_fl) (all_nil) (es := flotsamref06_Free_es) Go.Proofs.Tryd.func114 (by kernel_rfl) rfl (rng_none (by kernel_rfl) (by kernel_rfl)) (all_nil) rfl flotsamref06_Free_den

/-! ### flotsam/flotsamref07.Close -/
def flotsamref07_Close_r (a0 : Heap) (a1 : Int) : Option (Heap × Bool × Unit) :=
  bif decide (a1 < 0) then
    some (a0, false, ())
  else
  bif decide (a1 ≥ (a0.2.1.length : Int)) then
    some (a0, false, ())
  else
  bif decide (0 ≤ a1) then
    bif decide (a1 < (a0.2.1.length : Int)) then
      bif (a0.2.1.getD a1.toNat (0, 0, 0, ())).1 == 0 then
        some (a0, false, ())
      else
      bif decide (0 ≤ a1) then
        bif decide (a1 < (a0.2.1.length : Int)) then
          (flotsamref06_Free (a0.2.1.getD a1.toNat (0, 0, 0, ()), ())).bind fun y1 =>
          bif decide (0 ≤ a1) then
            bif decide (a1 < (a0.2.1.length : Int)) then
              (flotsamref04_Blocks ((a0.2.1.getD a1.toNat (0, 0, 0, ())).2.1, ())).bind fun y2 =>
              bif y1.1 != y2.1 then
                some (a0, false, ())
              else
              (flotsamref07_with (a0, a1, (0, 0, 0, ()), ())).bind fun y3 =>
              some ((y3.1.1, y3.1.2.1, y3.1.2.2), true, ())
            else none
          else none
        else none
      else none
    else none
  else none
def flotsamref07_Close (x : Heap × Int × Unit) : Option (Heap × Bool × Unit) := flotsamref07_Close_r x.1 x.2.1
noncomputable def flotsamref07_Close_sm : Sum := ⟨(.cons cHeap (.cons cI .nil)), (.cons (.d cHeap) (.cons (.d .bool) .nil)), flotsamref07_Close⟩
noncomputable def flotsamref07_Close_S : List (Nat × Sum) := [(74, flotsamref04_Blocks_sm), (109, flotsamref07_with_sm), (114, flotsamref06_Free_sm)]
noncomputable def flotsamref07_Close_fl : List (Nat × Func) := []
noncomputable def flotsamref07_Close_es : List AE := []
theorem flotsamref07_Close_den : (fun x => denFun TEv (look1 flotsamref07_Close_S) (look1 flotsamref07_Close_fl) (annOf flotsamref07_Close_es) 8 91 Go.Proofs.Tryd.f91 flotsamref07_Close_sm.a flotsamref07_Close_sm.r x) = flotsamref07_Close_sm.F := by kernel_rfl
theorem flotsamref07_Close_sem : SemOf Go.Proofs.Tryd.prog 91 flotsamref07_Close_sm :=
  semMk teOk (sl := flotsamref07_Close_S) (all_cons flotsamref04_Blocks_sem (all_cons flotsamref07_with_sem (all_cons flotsamref06_Free_sem all_nil))) (fl := flotsamref07_Close_fl) (all_nil) (es := flotsamref07_Close_es) Go.Proofs.Tryd.func91 (by kernel_rfl) rfl (rng_none (by kernel_rfl) (by kernel_rfl)) (all_nil) rfl flotsamref07_Close_den

/-! ### flotsam/flotsamref07.Made -/
def flotsamref07_Made_s0r (v1 : List (Int × Val)) (v6 : Int) (c0 : Bool × Unit) (c112 : Heap) : Option (SRes (.cons (.sl (.cons cI cVal)) (.cons cI (.cons (.cons .bool .nil) (.cons cHeap .nil)))) (.cons (.cons .bool .nil) (.cons cHeap .nil)) .nil) :=
  bif decide (v6 < (v1.length : Int)) then
    bif decide (0 ≤ v6) then
      bif decide (v6 < (v1.length : Int)) then
        bif (v1.getD v6.toNat (0, 0, 0, ())).1 == 0 then
          (flotsamref07_Open (c112, (v1.getD v6.toNat (0, 0, 0, ())).2.1, (v1.getD v6.toNat (0, 0, 0, ())).2.2.1, ())).bind fun y1 =>
          some (.next (v1, wi64 (v6 + 1), c0, y1.1, ()))
        else
        bif (v1.getD v6.toNat (0, 0, 0, ())).1 == 1 then
          (flotsamref07_Lay (c112, (v1.getD v6.toNat (0, 0, 0, ())).2.1, (v1.getD v6.toNat (0, 0, 0, ())).2.2.1, ())).bind fun y2 =>
          some (.next (v1, wi64 (v6 + 1), c0, y2.1, ()))
        else
        bif (v1.getD v6.toNat (0, 0, 0, ())).1 == 2 then
          (flotsamref07_Lay (c112, (v1.getD v6.toNat (0, 0, 0, ())).2.1, (v1.getD v6.toNat (0, 0, 0, ())).2.2.1, ())).bind fun y3 =>
          some (.next (v1, wi64 (v6 + 1), c0, y3.1, ()))
        else
        bif (v1.getD v6.toNat (0, 0, 0, ())).1 == 3 then
          (flotsamref07_Free (c112, (v1.getD v6.toNat (0, 0, 0, ())).2.1, ())).bind fun y4 =>
          some (.next (v1, wi64 (v6 + 1), c0, y4.1, ()))
        else
        bif (v1.getD v6.toNat (0, 0, 0, ())).1 == 4 then
          (flotsamref07_Close (c112, (v1.getD v6.toNat (0, 0, 0, ())).2.1, ())).bind fun y5 =>
          some (.next (v1, wi64 (v6 + 1), c0, y5.1, ()))
        else
        some (.next (v1, wi64 (v6 + 1), c0, (c112.1, c112.2.1, !c112.2.2.1, c112.2.2.2), ()))
      else none
    else none
  else
  some (.fin (.out (c0, c112, ())))
def flotsamref07_Made_s0 (x : (List (Int × Val)) × Int × (Bool × Unit) × Heap × Unit) : Option (SRes (.cons (.sl (.cons cI cVal)) (.cons cI (.cons (.cons .bool .nil) (.cons cHeap .nil)))) (.cons (.cons .bool .nil) (.cons cHeap .nil)) .nil) := flotsamref07_Made_s0r x.1 x.2.1 x.2.2.1 x.2.2.2.1
def flotsamref07_Made_l0 (x : (List (Int × Val)) × Int × (Bool × Unit) × Heap × Unit) : Option (LRes (.cons (.cons .bool .nil) (.cons cHeap .nil)) .nil) := iterL (h := (.cons (.sl (.cons cI cVal)) (.cons cI (.cons (.cons .bool .nil) (.cons cHeap .nil))))) (o := (.cons (.cons .bool .nil) (.cons cHeap .nil))) (r := .nil) flotsamref07_Made_s0 9223372036854775808 x
def flotsamref07_Made_r (a0 : Int) (a1 : List (Int × Val)) : Option (Heap × Unit) :=
  bif (wi64 (32 * a0)) == (wi64 (32 * a0)) then
    bif decide (0 ≤ (wi64 (32 * a0))) then
      bif decide ((wi64 (32 * a0)).toNat * 8 ≤ 140737488355328) then
        bif a0 == a0 then
          bif decide (0 ≤ a0) then
            bif decide (a0.toNat * 24 ≤ 140737488355328) then
              (flotsamref07_Made_l0 (a1, 0, (false, ()), (List.replicate (wi64 (32 * a0)).toNat (0 : Int), List.replicate a0.toNat ((0, 0, 0, ()) : Span), false, ()), ())).bind fun s6 => match s6 with
              | .out s6 =>
                some (s6.2.1, ())
              | .ret s6 =>
                none
            else none
          else none
        else none
      else none
    else none
  else none
def flotsamref07_Made (x : Int × (List (Int × Val)) × Unit) : Option (Heap × Unit) := flotsamref07_Made_r x.1 x.2.1
noncomputable def flotsamref07_Made_sm : Sum := ⟨(.cons cI (.cons (.sl (.cons cI cVal)) .nil)), (.cons (.d cHeap) .nil), flotsamref07_Made⟩
noncomputable def flotsamref07_Made_L0 : LoopSum := { hc := ⟨[(.key 112 [], cHeap)], [1, 4, 5, 6], [], [], [0, 112], [], 160⟩, h := ⟨[(1, (.d (.sl (.cons cI cVal)))), (4, (.pvar 0 [])), (5, (.pvar 112 [])), (6, (.d cI))], [(0, (.cons .nilsl (.cons .nilsl (.d (.cons .bool .nil))))), (112, (.d cHeap))], [], 160⟩, xid := 0, oc := ⟨[], [4, 5], [], [], [0, 112], [], 160⟩, o := ⟨[(4, (.pvar 0 [])), (5, (.pvar 112 []))], [(0, (.cons .nilsl (.cons .nilsl (.d (.cons .bool .nil))))), (112, (.d cHeap))], [], 160⟩, rc := ⟨[], [], [], [], [160], [], 160⟩, r := ⟨[], [], [], 160⟩, F := flotsamref07_Made_l0 }
noncomputable def flotsamref07_Made_S : List (Nat × Sum) := [(88, flotsamref07_Open_sm), (89, flotsamref07_Lay_sm), (90, flotsamref07_Free_sm), (91, flotsamref07_Close_sm)]
noncomputable def flotsamref07_Made_fl : List (Nat × Func) := []
noncomputable def flotsamref07_Made_es : List AE := [⟨8, 58, 0, 0, flotsamref07_Made_L0⟩]
theorem flotsamref07_Made_den0 : (fun x => denStep TEv (look1 flotsamref07_Made_S) (look1 flotsamref07_Made_fl) (annOf flotsamref07_Made_es) 8 58 Go.Proofs.Tryd.f58.ntmps 0 (cat (bodyOf Go.Proofs.Tryd.f58) [true, true, false, true, false, false]) flotsamref07_Made_L0 x) = flotsamref07_Made_s0 := by kernel_rfl
theorem flotsamref07_Made_den : (fun x => denFun TEv (look1 flotsamref07_Made_S) (look1 flotsamref07_Made_fl) (annOf flotsamref07_Made_es) 8 58 Go.Proofs.Tryd.f58 flotsamref07_Made_sm.a flotsamref07_Made_sm.r x) = flotsamref07_Made_sm.F := by kernel_rfl
theorem flotsamref07_Made_ok0 : AEok Go.Proofs.Tryd.prog TEv (look1 flotsamref07_Made_S) (look1 flotsamref07_Made_fl) (annOf flotsamref07_Made_es) ⟨8, 58, 0, 0, flotsamref07_Made_L0⟩ := aeok_of 9223372036854775808 Go.Proofs.Tryd.func58 (by kernel_rfl) flotsamref07_Made_den0 (by kernel_rfl)
theorem flotsamref07_Made_sem : SemOf Go.Proofs.Tryd.prog 58 flotsamref07_Made_sm :=
  semMk teOk (sl := flotsamref07_Made_S) (all_cons flotsamref07_Open_sem (all_cons flotsamref07_Lay_sem (all_cons flotsamref07_Free_sem (all_cons flotsamref07_Close_sem all_nil)))) (fl := flotsamref07_Made_fl) (all_nil) (es := flotsamref07_Made_es) Go.Proofs.Tryd.func58 (by kernel_rfl) rfl (rng_none (by kernel_rfl) (by kernel_rfl)) (all_cons flotsamref07_Made_ok0 (all_nil)) rfl flotsamref07_Made_den

/-! ### flotsam/flotsamref02.May -/
def flotsamref02_May_r (a0 : Hdr) : Option (Bool × Unit) :=
  bif !a0.1 then
    bif !a0.2.1 then
      bif a0.2.2.1 == 0 then
        some (a0.2.2.2.1 == 0, ())
      else
      some (false, ())
    else
    some (false, ())
  else
  bif decide (a0.2.2.1 < 0) then
    some (false, ())
  else
  bif decide (a0.2.2.1 > 3) then
    some (false, ())
  else
  bif decide (a0.2.2.2.1 < 0) then
    some (false, ())
  else
  bif decide (0 ≤ a0.2.2.1) then
    bif decide (a0.2.2.1 < 4) then
      some (decide (a0.2.2.2.1 ≤ ([1, 3, 7, 15].getD a0.2.2.1.toNat 0)), ())
    else none
  else none
def flotsamref02_May (x : Hdr × Unit) : Option (Bool × Unit) := flotsamref02_May_r x.1
noncomputable def flotsamref02_May_sm : Sum := ⟨(.cons cHdr .nil), (.cons (.d .bool) .nil), flotsamref02_May⟩
noncomputable def flotsamref02_May_S : List (Nat × Sum) := []
noncomputable def flotsamref02_May_fl : List (Nat × Func) := []
noncomputable def flotsamref02_May_es : List AE := []
theorem flotsamref02_May_den : (fun x => denFun TEv (look1 flotsamref02_May_S) (look1 flotsamref02_May_fl) (annOf flotsamref02_May_es) 8 95 Go.Proofs.Tryd.f95 flotsamref02_May_sm.a flotsamref02_May_sm.r x) = flotsamref02_May_sm.F := by kernel_rfl
theorem flotsamref02_May_sem : SemOf Go.Proofs.Tryd.prog 95 flotsamref02_May_sm :=
  semMk teOk (sl := flotsamref02_May_S) (all_nil) (fl := flotsamref02_May_fl) (all_nil) (es := flotsamref02_May_es) Go.Proofs.Tryd.func95 (by kernel_rfl) rfl (rng_none (by kernel_rfl) (by kernel_rfl)) (all_nil) rfl flotsamref02_May_den

/-! ### flotsam/flotsamref02.Get -/
def flotsamref02_Get_s0r (v0 : Int) (v4 : Int) (v5 : Int) (v6 : Int) (c0 : Hdr) : Option (SRes (.cons (.int .u64) (.cons cI (.cons cI (.cons cI (.cons cHdr .nil))))) (.cons (.int .u64) (.cons cI (.cons cI (.cons cHdr .nil)))) (.cons .bool (.cons cHdr .nil))) :=
  bif decide (v6 < 2) then
    (flotsamref02_May ((true, v6 == 1, v4, v5, ()), ())).bind fun y1 =>
    bif y1.1 then
      (flotsamref02_Put ((true, v6 == 1, v4, v5, ()), ())).bind fun y2 =>
      bif y2.1 == v0 then
        some (.fin (.ret (true, (true, v6 == 1, v4, v5, ()), ())))
      else
      some (.next (v0, v4, v5, wi64 (v6 + 1), c0, ()))
    else
    some (.next (v0, v4, v5, wi64 (v6 + 1), c0, ()))
  else
  some (.fin (.out (v0, v4, v5, c0, ())))
def flotsamref02_Get_s0 (x : Int × Int × Int × Int × Hdr × Unit) : Option (SRes (.cons (.int .u64) (.cons cI (.cons cI (.cons cI (.cons cHdr .nil))))) (.cons (.int .u64) (.cons cI (.cons cI (.cons cHdr .nil)))) (.cons .bool (.cons cHdr .nil))) := flotsamref02_Get_s0r x.1 x.2.1 x.2.2.1 x.2.2.2.1 x.2.2.2.2.1
def flotsamref02_Get_l0 (x : Int × Int × Int × Int × Hdr × Unit) : Option (LRes (.cons (.int .u64) (.cons cI (.cons cI (.cons cHdr .nil)))) (.cons .bool (.cons cHdr .nil))) := iterL (h := (.cons (.int .u64) (.cons cI (.cons cI (.cons cI (.cons cHdr .nil)))))) (o := (.cons (.int .u64) (.cons cI (.cons cI (.cons cHdr .nil))))) (r := (.cons .bool (.cons cHdr .nil))) flotsamref02_Get_s0 9223372036854775808 x
def flotsamref02_Get_s1r (v0 : Int) (v4 : Int) (v5 : Int) (c0 : Hdr) : Option (SRes (.cons (.int .u64) (.cons cI (.cons cI (.cons cHdr .nil)))) (.cons (.int .u64) (.cons cI (.cons cHdr .nil))) (.cons .bool (.cons cHdr .nil))) :=
  bif decide (v5 < 16) then
    (flotsamref02_Get_l0 (v0, v4, v5, 0, c0, ())).bind fun s3 => match s3 with
    | .out s3 =>
      some (.next (s3.1, s3.2.1, wi64 (s3.2.2.1 + 1), s3.2.2.2.1, ()))
    | .ret s3 =>
      some (.fin (.ret (s3.1, s3.2.1, ())))
  else
  some (.fin (.out (v0, v4, c0, ())))
def flotsamref02_Get_s1 (x : Int × Int × Int × Hdr × Unit) : Option (SRes (.cons (.int .u64) (.cons cI (.cons cI (.cons cHdr .nil)))) (.cons (.int .u64) (.cons cI (.cons cHdr .nil))) (.cons .bool (.cons cHdr .nil))) := flotsamref02_Get_s1r x.1 x.2.1 x.2.2.1 x.2.2.2.1
def flotsamref02_Get_l1 (x : Int × Int × Int × Hdr × Unit) : Option (LRes (.cons (.int .u64) (.cons cI (.cons cHdr .nil))) (.cons .bool (.cons cHdr .nil))) := iterL (h := (.cons (.int .u64) (.cons cI (.cons cI (.cons cHdr .nil))))) (o := (.cons (.int .u64) (.cons cI (.cons cHdr .nil)))) (r := (.cons .bool (.cons cHdr .nil))) flotsamref02_Get_s1 9223372036854775808 x
def flotsamref02_Get_s2r (v0 : Int) (v4 : Int) (c0 : Hdr) : Option (SRes (.cons (.int .u64) (.cons cI (.cons cHdr .nil))) (.cons cHdr .nil) (.cons .bool (.cons cHdr .nil))) :=
  bif decide (v4 < 4) then
    (flotsamref02_Get_l1 (v0, v4, 0, c0, ())).bind fun s4 => match s4 with
    | .out s4 =>
      some (.next (s4.1, wi64 (s4.2.1 + 1), s4.2.2.1, ()))
    | .ret s4 =>
      some (.fin (.ret (s4.1, s4.2.1, ())))
  else
  some (.fin (.out (c0, ())))
def flotsamref02_Get_s2 (x : Int × Int × Hdr × Unit) : Option (SRes (.cons (.int .u64) (.cons cI (.cons cHdr .nil))) (.cons cHdr .nil) (.cons .bool (.cons cHdr .nil))) := flotsamref02_Get_s2r x.1 x.2.1 x.2.2.1
def flotsamref02_Get_l2 (x : Int × Int × Hdr × Unit) : Option (LRes (.cons cHdr .nil) (.cons .bool (.cons cHdr .nil))) := iterL (h := (.cons (.int .u64) (.cons cI (.cons cHdr .nil)))) (o := (.cons cHdr .nil)) (r := (.cons .bool (.cons cHdr .nil))) flotsamref02_Get_s2 9223372036854775808 x
def flotsamref02_Get_r (a0 : Int) : Option (Hdr × Bool × Unit) :=
  bif a0 == 0 then
    some ((false, false, 0, 0, ()), true, ())
  else
  (flotsamref02_Get_l2 (a0, 0, (false, false, 0, 0, ()), ())).bind fun s5 => match s5 with
  | .out s5 =>
    some ((false, false, 0, 0, ()), false, ())
  | .ret s5 =>
    some (s5.2.1, s5.1, ())
def flotsamref02_Get (x : Int × Unit) : Option (Hdr × Bool × Unit) := flotsamref02_Get_r x.1
noncomputable def flotsamref02_Get_sm : Sum := ⟨(.cons (.int .u64) .nil), (.cons (.d cHdr) (.cons (.d .bool) .nil)), flotsamref02_Get⟩
noncomputable def flotsamref02_Get_L0 : LoopSum := { hc := ⟨[], [0, 2, 4, 5, 6], [], [], [0], [], 176⟩, h := ⟨[(0, (.d (.int .u64))), (2, (.pvar 0 [])), (4, (.d cI)), (5, (.d cI)), (6, (.d cI))], [(0, (.d cHdr))], [], 176⟩, xid := 4, oc := ⟨[], [0, 2, 4, 5], [], [], [0], [], 176⟩, o := ⟨[(0, (.d (.int .u64))), (2, (.pvar 0 [])), (4, (.d cI)), (5, (.d cI))], [(0, (.d cHdr))], [], 176⟩, rc := ⟨[], [2, 3], [], [], [0], [], 176⟩, r := ⟨[(2, (.pvar 0 [])), (3, (.d .bool))], [(0, (.d cHdr))], [], 176⟩, F := flotsamref02_Get_l0 }
noncomputable def flotsamref02_Get_L1 : LoopSum := { hc := ⟨[], [0, 2, 4, 5], [], [], [0], [], 128⟩, h := ⟨[(0, (.d (.int .u64))), (2, (.pvar 0 [])), (4, (.d cI)), (5, (.d cI))], [(0, (.d cHdr))], [], 128⟩, xid := 2, oc := ⟨[], [0, 2, 4], [], [], [0], [], 128⟩, o := ⟨[(0, (.d (.int .u64))), (2, (.pvar 0 [])), (4, (.d cI))], [(0, (.d cHdr))], [], 128⟩, rc := ⟨[], [2, 3], [], [], [0], [], 128⟩, r := ⟨[(2, (.pvar 0 [])), (3, (.d .bool))], [(0, (.d cHdr))], [], 128⟩, F := flotsamref02_Get_l1 }
noncomputable def flotsamref02_Get_L2 : LoopSum := { hc := ⟨[], [0, 2, 4], [], [], [0], [], 80⟩, h := ⟨[(0, (.d (.int .u64))), (2, (.pvar 0 [])), (4, (.d cI))], [(0, (.d cHdr))], [], 80⟩, xid := 0, oc := ⟨[], [2], [], [], [0], [], 80⟩, o := ⟨[(2, (.pvar 0 []))], [(0, (.d cHdr))], [], 80⟩, rc := ⟨[], [2, 3], [], [], [0], [], 80⟩, r := ⟨[(2, (.pvar 0 [])), (3, (.d .bool))], [(0, (.d cHdr))], [], 80⟩, F := flotsamref02_Get_l2 }
noncomputable def flotsamref02_Get_S : List (Nat × Sum) := [(95, flotsamref02_May_sm), (96, flotsamref02_Put_sm)]
noncomputable def flotsamref02_Get_fl : List (Nat × Func) := []
noncomputable def flotsamref02_Get_es : List AE := [⟨8, 63, 0, 4, flotsamref02_Get_L0⟩, ⟨8, 63, 0, 2, flotsamref02_Get_L1⟩, ⟨8, 63, 0, 0, flotsamref02_Get_L2⟩]
theorem flotsamref02_Get_den0 : (fun x => denStep TEv (look1 flotsamref02_Get_S) (look1 flotsamref02_Get_fl) (annOf flotsamref02_Get_es) 8 63 Go.Proofs.Tryd.f63.ntmps 0 (cat (bodyOf Go.Proofs.Tryd.f63) [true, true, false, true, false, false, true, false, false, true, false, false, true, false, false, true, false, false]) flotsamref02_Get_L0 x) = flotsamref02_Get_s0 := by kernel_rfl
theorem flotsamref02_Get_den1 : (fun x => denStep TEv (look1 flotsamref02_Get_S) (look1 flotsamref02_Get_fl) (annOf flotsamref02_Get_es) 8 63 Go.Proofs.Tryd.f63.ntmps 0 (cat (bodyOf Go.Proofs.Tryd.f63) [true, true, false, true, false, false, true, false, false, true, false, false]) flotsamref02_Get_L1 x) = flotsamref02_Get_s1 := by kernel_rfl
theorem flotsamref02_Get_den2 : (fun x => denStep TEv (look1 flotsamref02_Get_S) (look1 flotsamref02_Get_fl) (annOf flotsamref02_Get_es) 8 63 Go.Proofs.Tryd.f63.ntmps 0 (cat (bodyOf Go.Proofs.Tryd.f63) [true, true, false, true, false, false]) flotsamref02_Get_L2 x) = flotsamref02_Get_s2 := by kernel_rfl
theorem flotsamref02_Get_den : (fun x => denFun TEv (look1 flotsamref02_Get_S) (look1 flotsamref02_Get_fl) (annOf flotsamref02_Get_es) 8 63 Go.Proofs.Tryd.f63 flotsamref02_Get_sm.a flotsamref02_Get_sm.r x) = flotsamref02_Get_sm.F := by kernel_rfl
theorem flotsamref02_Get_ok0 : AEok Go.Proofs.Tryd.prog TEv (look1 flotsamref02_Get_S) (look1 flotsamref02_Get_fl) (annOf flotsamref02_Get_es) ⟨8, 63, 0, 4, flotsamref02_Get_L0⟩ := aeok_of 9223372036854775808 Go.Proofs.Tryd.func63 (by kernel_rfl) flotsamref02_Get_den0 (by kernel_rfl)
theorem flotsamref02_Get_ok1 : AEok Go.Proofs.Tryd.prog TEv (look1 flotsamref02_Get_S) (look1 flotsamref02_Get_fl) (annOf flotsamref02_Get_es) ⟨8, 63, 0, 2, flotsamref02_Get_L1⟩ := aeok_of 9223372036854775808 Go.Proofs.Tryd.func63 (by kernel_rfl) flotsamref02_Get_den1 (by kernel_rfl)
theorem flotsamref02_Get_ok2 : AEok Go.Proofs.Tryd.prog TEv (look1 flotsamref02_Get_S) (look1 flotsamref02_Get_fl) (annOf flotsamref02_Get_es) ⟨8, 63, 0, 0, flotsamref02_Get_L2⟩ := aeok_of 9223372036854775808 Go.Proofs.Tryd.func63 (by kernel_rfl) flotsamref02_Get_den2 (by kernel_rfl)
theorem flotsamref02_Get_sem : SemOf Go.Proofs.Tryd.prog 63 flotsamref02_Get_sm :=
  semMk teOk (sl := flotsamref02_Get_S) (all_cons flotsamref02_May_sem (all_cons flotsamref02_Put_sem all_nil)) (fl := flotsamref02_Get_fl) (all_nil) (es := flotsamref02_Get_es) Go.Proofs.Tryd.func63 (by kernel_rfl) rfl (rng_none (by kernel_rfl) (by kernel_rfl)) (all_cons flotsamref02_Get_ok0 (all_cons flotsamref02_Get_ok1 (all_cons flotsamref02_Get_ok2 (all_nil)))) rfl flotsamref02_Get_den

/-! ### flotsam/flotsamref08.Get -/
def flotsamref08_Get_r (a0 : Heap) (a1 : Int) : Option (Hdr × Bool × Unit) :=
  (flotsamref07_Find (a0, a1, ())).bind fun y1 =>
  bif !y1.2.2.1 then
    some ((false, false, 0, 0, ()), false, ())
  else
  bif decide (0 ≤ a1) then
    bif decide (a1 < (a0.1.length : Int)) then
      (flotsamref02_Get (a0.1.getD a1.toNat 0, ())).bind fun y2 =>
      bif !y2.2.1 then
        some ((false, false, 0, 0, ()), false, ())
      else
      bif !y2.1.1 then
        some ((false, false, 0, 0, ()), false, ())
      else
      bif decide ((wi64 (a1 + y2.1.2.2.2.1)) ≥ (wi64 ((wi64 (32 * (wi64 (a1.tdiv 32)))) + 32))) then
        some ((false, false, 0, 0, ()), false, ())
      else
      some (y2.1, true, ())
    else none
  else none
def flotsamref08_Get (x : Heap × Int × Unit) : Option (Hdr × Bool × Unit) := flotsamref08_Get_r x.1 x.2.1
noncomputable def flotsamref08_Get_sm : Sum := ⟨(.cons cHeap (.cons cI .nil)), (.cons (.d cHdr) (.cons (.d .bool) .nil)), flotsamref08_Get⟩
noncomputable def flotsamref08_Get_S : List (Nat × Sum) := [(62, flotsamref07_Find_sm), (63, flotsamref02_Get_sm)]
noncomputable def flotsamref08_Get_fl : List (Nat × Func) := []
noncomputable def flotsamref08_Get_es : List AE := []
theorem flotsamref08_Get_den : (fun x => denFun TEv (look1 flotsamref08_Get_S) (look1 flotsamref08_Get_fl) (annOf flotsamref08_Get_es) 8 33 Go.Proofs.Tryd.f33 flotsamref08_Get_sm.a flotsamref08_Get_sm.r x) = flotsamref08_Get_sm.F := by kernel_rfl
theorem flotsamref08_Get_sem : SemOf Go.Proofs.Tryd.prog 33 flotsamref08_Get_sm :=
  semMk teOk (sl := flotsamref08_Get_S) (all_cons flotsamref07_Find_sem (all_cons flotsamref02_Get_sem all_nil)) (fl := flotsamref08_Get_fl) (all_nil) (es := flotsamref08_Get_es) Go.Proofs.Tryd.func33 (by kernel_rfl) rfl (rng_none (by kernel_rfl) (by kernel_rfl)) (all_nil) rfl flotsamref08_Get_den

/-! ### flotsam/flotsamref08.List -/
def flotsamref08_List_s0r (v4 : Int) (c0 : Heap) (r64 : List Int) : Option (SRes (.cons cI (.cons cHeap (.cons (.sl cI) .nil))) (.cons (.sl cI) .nil) .nil) :=
  bif decide (v4 < (c0.1.length : Int)) then
    (flotsamref08_Get (c0, v4, ())).bind fun y1 =>
    bif y1.2.1 then
      bif decide ((r64.length + 1) * 8 ≤ 140737488355328) then
        some (.next (wi64 (v4 + 1), c0, r64 ++ [v4], ()))
      else none
    else
    some (.next (wi64 (v4 + 1), c0, r64, ()))
  else
  some (.fin (.out (r64, ())))
def flotsamref08_List_s0 (x : Int × Heap × (List Int) × Unit) : Option (SRes (.cons cI (.cons cHeap (.cons (.sl cI) .nil))) (.cons (.sl cI) .nil) .nil) := flotsamref08_List_s0r x.1 x.2.1 x.2.2.1
def flotsamref08_List_l0 (x : Int × Heap × (List Int) × Unit) : Option (LRes (.cons (.sl cI) .nil) .nil) := iterL (h := (.cons cI (.cons cHeap (.cons (.sl cI) .nil)))) (o := (.cons (.sl cI) .nil)) (r := .nil) flotsamref08_List_s0 9223372036854775808 x
def flotsamref08_List_r (a0 : Heap) : Option ((List Int) × Unit) :=
  (flotsamref08_List_l0 (0, a0, [], ())).bind fun s2 => match s2 with
  | .out s2 =>
    some (s2.1, ())
  | .ret s2 =>
    none
def flotsamref08_List (x : Heap × Unit) : Option ((List Int) × Unit) := flotsamref08_List_r x.1
noncomputable def flotsamref08_List_sm : Sum := ⟨(.cons cHeap .nil), (.cons (.own cI) .nil), flotsamref08_List⟩
noncomputable def flotsamref08_List_L0 : LoopSum := { hc := ⟨[], [1, 3, 4], [(.tmp 3, cI)], [], [0], [], 64⟩, h := ⟨[(1, (.pvar 0 [])), (3, (.row 64)), (4, (.d cI))], [(0, (.d cHeap))], [(64, cI, true)], 65⟩, xid := 0, oc := ⟨[], [3], [(.tmp 3, cI)], [], [], [], 64⟩, o := ⟨[(3, (.row 64))], [], [(64, cI, true)], 65⟩, rc := ⟨[], [], [], [], [64], [], 64⟩, r := ⟨[], [], [], 64⟩, F := flotsamref08_List_l0 }
noncomputable def flotsamref08_List_S : List (Nat × Sum) := [(33, flotsamref08_Get_sm)]
noncomputable def flotsamref08_List_fl : List (Nat × Func) := []
noncomputable def flotsamref08_List_es : List AE := [⟨8, 15, 0, 0, flotsamref08_List_L0⟩]
theorem flotsamref08_List_den0 : (fun x => denStep TEv (look1 flotsamref08_List_S) (look1 flotsamref08_List_fl) (annOf flotsamref08_List_es) 8 15 Go.Proofs.Tryd.f15.ntmps 0 (cat (bodyOf Go.Proofs.Tryd.f15) [true, true, false, true, false, false]) flotsamref08_List_L0 x) = flotsamref08_List_s0 := by kernel_rfl
theorem flotsamref08_List_den : (fun x => denFun TEv (look1 flotsamref08_List_S) (look1 flotsamref08_List_fl) (annOf flotsamref08_List_es) 8 15 Go.Proofs.Tryd.f15 flotsamref08_List_sm.a flotsamref08_List_sm.r x) = flotsamref08_List_sm.F := by kernel_rfl
theorem flotsamref08_List_ok0 : AEok Go.Proofs.Tryd.prog TEv (look1 flotsamref08_List_S) (look1 flotsamref08_List_fl) (annOf flotsamref08_List_es) ⟨8, 15, 0, 0, flotsamref08_List_L0⟩ := aeok_of 9223372036854775808 Go.Proofs.Tryd.func15 (by kernel_rfl) flotsamref08_List_den0 (by kernel_rfl)
theorem flotsamref08_List_sem : SemOf Go.Proofs.Tryd.prog 15 flotsamref08_List_sm :=
  semMk teOk (sl := flotsamref08_List_S) (all_cons flotsamref08_Get_sem all_nil) (fl := flotsamref08_List_fl) (all_nil) (es := flotsamref08_List_es) Go.Proofs.Tryd.func15 (by kernel_rfl) rfl (rng_none (by kernel_rfl) (by kernel_rfl)) (all_cons flotsamref08_List_ok0 (all_nil)) rfl flotsamref08_List_den
end Go.Proofs.YtdiogegolnoeoaaDoor.Den
