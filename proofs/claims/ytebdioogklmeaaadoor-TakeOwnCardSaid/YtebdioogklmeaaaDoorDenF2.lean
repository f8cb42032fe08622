/- What functions come to. Printed by a program of this session. -/
import Derived.Test.YtebdioogklmeaaaDoorDenF1
namespace Go.Proofs.YtebdioogklmeaaaDoor.Den
open Go
set_option maxRecDepth 100000
set_option linter.unusedVariables false
/-! ### flotsam/flotsamref03.Has -/
def flotsamref03_Has_s0r (v0 : Int) (v1 : Int) (v5 : Int) : Option (SRes (.cons (.int .u32) (.cons cI (.cons cI .nil))) (.cons (.int .u32) .nil) .nil) :=
  bif decide (v5 < v1) then
    some (.next (wu32 (v0.tdiv 2), v1, wi64 (v5 + 1), ()))
  else
  some (.fin (.out (v0, ())))
def flotsamref03_Has_s0 (x : Int × Int × Int × Unit) : Option (SRes (.cons (.int .u32) (.cons cI (.cons cI .nil))) (.cons (.int .u32) .nil) .nil) := flotsamref03_Has_s0r x.1 x.2.1 x.2.2.1
def flotsamref03_Has_l0 (x : Int × Int × Int × Unit) : Option (LRes (.cons (.int .u32) .nil) .nil) := iterL (h := (.cons (.int .u32) (.cons cI (.cons cI .nil)))) (o := (.cons (.int .u32) .nil)) (r := .nil) flotsamref03_Has_s0 9223372036854775808 x
def flotsamref03_Has_r (a0 : Int) (a1 : Int) : Option (Bool × Unit) :=
  bif decide (a1 < 0) then
    some (false, ())
  else
  bif decide (a1 > 31) then
    some (false, ())
  else
  (flotsamref03_Has_l0 (a0, a1, 0, ())).bind fun s1 => match s1 with
  | .out s1 =>
    some ((s1.1.tmod 2) == 1, ())
  | .ret s1 =>
    none
def flotsamref03_Has (x : Int × Int × Unit) : Option (Bool × Unit) := flotsamref03_Has_r x.1 x.2.1
noncomputable def flotsamref03_Has_sm : Sum := ⟨(.cons (.int .u32) (.cons cI .nil)), (.cons (.d .bool) .nil), flotsamref03_Has⟩
noncomputable def flotsamref03_Has_L0 : LoopSum := { hc := ⟨[], [0, 1, 5], [], [], [], [], 128⟩, h := ⟨[(0, (.d (.int .u32))), (1, (.d cI)), (5, (.d cI))], [], [], 128⟩, xid := 0, oc := ⟨[], [0], [], [], [], [], 128⟩, o := ⟨[(0, (.d (.int .u32)))], [], [], 128⟩, rc := ⟨[], [], [], [], [128], [], 128⟩, r := ⟨[], [], [], 128⟩, F := flotsamref03_Has_l0 }
noncomputable def flotsamref03_Has_S : List (Nat × Sum) := []
noncomputable def flotsamref03_Has_fl : List (Nat × Func) := []
noncomputable def flotsamref03_Has_es : List AE := [⟨8, 49, 0, 0, flotsamref03_Has_L0⟩]
theorem flotsamref03_Has_den0 : (fun x => denStep TEv (look1 flotsamref03_Has_S) (look1 flotsamref03_Has_fl) (annOf flotsamref03_Has_es) 8 49 Go.Proofs.Tryd.f49.ntmps 0 (cat (bodyOf Go.Proofs.Tryd.f49) [true, true, false, true, false, false]) flotsamref03_Has_L0 x) = flotsamref03_Has_s0 := by kernel_rfl
theorem flotsamref03_Has_den : (fun x => denFun TEv (look1 flotsamref03_Has_S) (look1 flotsamref03_Has_fl) (annOf flotsamref03_Has_es) 8 49 Go.Proofs.Tryd.f49 flotsamref03_Has_sm.a flotsamref03_Has_sm.r x) = flotsamref03_Has_sm.F := by kernel_rfl
theorem flotsamref03_Has_ok0 : AEok Go.Proofs.Tryd.prog TEv (look1 flotsamref03_Has_S) (look1 flotsamref03_Has_fl) (annOf flotsamref03_Has_es) ⟨8, 49, 0, 0, flotsamref03_Has_L0⟩ := aeok_of 9223372036854775808 Go.Proofs.Tryd.func49 (by kernel_rfl) flotsamref03_Has_den0 (by kernel_rfl)
theorem flotsamref03_Has_sem : SemOf Go.Proofs.Tryd.prog 49 flotsamref03_Has_sm :=
  semMk teOk (sl := flotsamref03_Has_S) (all_nil) (fl := flotsamref03_Has_fl) (all_nil) (es := flotsamref03_Has_es) Go.Proofs.Tryd.func49 (by kernel_rfl) rfl (all_cons flotsamref03_Has_ok0 (all_nil)) rfl flotsamref03_Has_den

/-! ### flotsam/flotsamref03.Count -/
def flotsamref03_Count_s0r (v0 : Int) (v3 : Int) (v4 : Int) : Option (SRes (.cons (.int .u32) (.cons cI (.cons cI .nil))) (.cons cI .nil) .nil) :=
  bif decide (v4 < 32) then
    (flotsamref03_Has (v0, v4, ())).bind fun y1 =>
    bif y1.1 then
      some (.next (v0, wi64 (v3 + 1), wi64 (v4 + 1), ()))
    else
    some (.next (v0, v3, wi64 (v4 + 1), ()))
  else
  some (.fin (.out (v3, ())))
def flotsamref03_Count_s0 (x : Int × Int × Int × Unit) : Option (SRes (.cons (.int .u32) (.cons cI (.cons cI .nil))) (.cons cI .nil) .nil) := flotsamref03_Count_s0r x.1 x.2.1 x.2.2.1
def flotsamref03_Count_l0 (x : Int × Int × Int × Unit) : Option (LRes (.cons cI .nil) .nil) := iterL (h := (.cons (.int .u32) (.cons cI (.cons cI .nil)))) (o := (.cons cI .nil)) (r := .nil) flotsamref03_Count_s0 9223372036854775808 x
def flotsamref03_Count_r (a0 : Int) : Option (Int × Unit) :=
  (flotsamref03_Count_l0 (a0, 0, 0, ())).bind fun s2 => match s2 with
  | .out s2 =>
    some (s2.1, ())
  | .ret s2 =>
    none
def flotsamref03_Count (x : Int × Unit) : Option (Int × Unit) := flotsamref03_Count_r x.1
noncomputable def flotsamref03_Count_sm : Sum := ⟨(.cons (.int .u32) .nil), (.cons (.d cI) .nil), flotsamref03_Count⟩
noncomputable def flotsamref03_Count_L0 : LoopSum := { hc := ⟨[], [0, 3, 4], [], [], [], [], 48⟩, h := ⟨[(0, (.d (.int .u32))), (3, (.d cI)), (4, (.d cI))], [], [], 48⟩, xid := 0, oc := ⟨[], [3], [], [], [], [], 48⟩, o := ⟨[(3, (.d cI))], [], [], 48⟩, rc := ⟨[], [], [], [], [48], [], 48⟩, r := ⟨[], [], [], 48⟩, F := flotsamref03_Count_l0 }
noncomputable def flotsamref03_Count_S : List (Nat × Sum) := [(49, flotsamref03_Has_sm)]
noncomputable def flotsamref03_Count_fl : List (Nat × Func) := []
noncomputable def flotsamref03_Count_es : List AE := [⟨8, 71, 0, 0, flotsamref03_Count_L0⟩]
theorem flotsamref03_Count_den0 : (fun x => denStep TEv (look1 flotsamref03_Count_S) (look1 flotsamref03_Count_fl) (annOf flotsamref03_Count_es) 8 71 Go.Proofs.Tryd.f71.ntmps 0 (cat (bodyOf Go.Proofs.Tryd.f71) [true, true, false, true, false, false]) flotsamref03_Count_L0 x) = flotsamref03_Count_s0 := by kernel_rfl
theorem flotsamref03_Count_den : (fun x => denFun TEv (look1 flotsamref03_Count_S) (look1 flotsamref03_Count_fl) (annOf flotsamref03_Count_es) 8 71 Go.Proofs.Tryd.f71 flotsamref03_Count_sm.a flotsamref03_Count_sm.r x) = flotsamref03_Count_sm.F := by kernel_rfl
theorem flotsamref03_Count_ok0 : AEok Go.Proofs.Tryd.prog TEv (look1 flotsamref03_Count_S) (look1 flotsamref03_Count_fl) (annOf flotsamref03_Count_es) ⟨8, 71, 0, 0, flotsamref03_Count_L0⟩ := aeok_of 9223372036854775808 Go.Proofs.Tryd.func71 (by kernel_rfl) flotsamref03_Count_den0 (by kernel_rfl)
theorem flotsamref03_Count_sem : SemOf Go.Proofs.Tryd.prog 71 flotsamref03_Count_sm :=
  semMk teOk (sl := flotsamref03_Count_S) (all_cons flotsamref03_Has_sem all_nil) (fl := flotsamref03_Count_fl) (all_nil) (es := flotsamref03_Count_es) Go.Proofs.Tryd.func71 (by kernel_rfl) rfl (all_cons flotsamref03_Count_ok0 (all_nil)) rfl flotsamref03_Count_den

/-! ### flotsam/flotsamref06.Free -/
def flotsamref06_Free_r (a0 : Span) : Option (Int × Unit) :=
  (flotsamref03_Count (a0.2.2.1, ())).bind fun y1 =>
  some (y1.1, ())
def flotsamref06_Free (x : Span × Unit) : Option (Int × Unit) := flotsamref06_Free_r x.1
noncomputable def flotsamref06_Free_sm : Sum := ⟨(.cons cSpan .nil), (.cons (.d cI) .nil), flotsamref06_Free⟩
noncomputable def flotsamref06_Free_S : List (Nat × Sum) := [(71, flotsamref03_Count_sm)]
noncomputable def flotsamref06_Free_fl : List (Nat × Func) := []
noncomputable def flotsamref06_Free_es : List AE := []
theorem flotsamref06_Free_den : (fun x => denFun TEv (look1 flotsamref06_Free_S) (look1 flotsamref06_Free_fl) (annOf flotsamref06_Free_es) 8 46 Go.Proofs.Tryd.f46 flotsamref06_Free_sm.a flotsamref06_Free_sm.r x) = flotsamref06_Free_sm.F := by kernel_rfl
theorem flotsamref06_Free_sem : SemOf Go.Proofs.Tryd.prog 46 flotsamref06_Free_sm :=
  semMk teOk (sl := flotsamref06_Free_S) (all_cons flotsamref03_Count_sem all_nil) (fl := flotsamref06_Free_fl) (all_nil) (es := flotsamref06_Free_es) Go.Proofs.Tryd.func46 (by kernel_rfl) rfl (all_nil) rfl flotsamref06_Free_den

/-! ### flotsam/flotsamref11.open -/
def flotsamref11_open_r (a0 : Span) : Option (Bool × Unit) :=
  bif a0.1 == 1 then
    (flotsamref06_Free (a0, ())).bind fun y1 =>
    some (decide (y1.1 > 0), ())
  else
  some (false, ())
def flotsamref11_open (x : Span × Unit) : Option (Bool × Unit) := flotsamref11_open_r x.1
noncomputable def flotsamref11_open_sm : Sum := ⟨(.cons cSpan .nil), (.cons (.d .bool) .nil), flotsamref11_open⟩
noncomputable def flotsamref11_open_S : List (Nat × Sum) := [(46, flotsamref06_Free_sm)]
noncomputable def flotsamref11_open_fl : List (Nat × Func) := []
noncomputable def flotsamref11_open_es : List AE := []
theorem flotsamref11_open_den : (fun x => denFun TEv (look1 flotsamref11_open_S) (look1 flotsamref11_open_fl) (annOf flotsamref11_open_es) 8 33 Go.Proofs.Tryd.f33 flotsamref11_open_sm.a flotsamref11_open_sm.r x) = flotsamref11_open_sm.F := by kernel_rfl
theorem flotsamref11_open_sem : SemOf Go.Proofs.Tryd.prog 33 flotsamref11_open_sm :=
  semMk teOk (sl := flotsamref11_open_S) (all_cons flotsamref06_Free_sem all_nil) (fl := flotsamref11_open_fl) (all_nil) (es := flotsamref11_open_es) Go.Proofs.Tryd.func33 (by kernel_rfl) rfl (all_nil) rfl flotsamref11_open_den

/-! ### flotsam/flotsamref11.Page -/
def flotsamref11_Page_s0r (v1 : List (List Int)) (v3 : Int) (v10 : Int) (c0 : Heap) : Option (SRes (.cons (.sl (.arr 4 cI)) (.cons cI (.cons cI (.cons cHeap .nil)))) (.cons cHeap .nil) (.cons cI (.cons .bool .nil))) :=
  bif decide (v10 < (c0.2.1.length : Int)) then
    bif decide (0 ≤ v10) then
      bif decide (v10 < (c0.2.1.length : Int)) then
        bif (c0.2.1.getD v10.toNat (0, 0, 0, ())).2.1 == v3 then
          bif decide (0 ≤ v10) then
            bif decide (v10 < (c0.2.1.length : Int)) then
              (flotsamref11_open (c0.2.1.getD v10.toNat (0, 0, 0, ()), ())).bind fun y2 =>
              bif y2.1 then
                (flotsamref11_Kept (v1, v10, ())).bind fun y3 =>
                bif !y3.1 then
                  some (.fin (.ret (v10, true, ())))
                else
                some (.next (v1, v3, wi64 (v10 + 1), c0, ()))
              else
              some (.next (v1, v3, wi64 (v10 + 1), c0, ()))
            else none
          else none
        else
        some (.next (v1, v3, wi64 (v10 + 1), c0, ()))
      else none
    else none
  else
  some (.fin (.out (c0, ())))
def flotsamref11_Page_s0 (x : (List (List Int)) × Int × Int × Heap × Unit) : Option (SRes (.cons (.sl (.arr 4 cI)) (.cons cI (.cons cI (.cons cHeap .nil)))) (.cons cHeap .nil) (.cons cI (.cons .bool .nil))) := flotsamref11_Page_s0r x.1 x.2.1 x.2.2.1 x.2.2.2.1
def flotsamref11_Page_l0 (x : (List (List Int)) × Int × Int × Heap × Unit) : Option (LRes (.cons cHeap .nil) (.cons cI (.cons .bool .nil))) := iterL (h := (.cons (.sl (.arr 4 cI)) (.cons cI (.cons cI (.cons cHeap .nil))))) (o := (.cons cHeap .nil)) (r := (.cons cI (.cons .bool .nil))) flotsamref11_Page_s0 9223372036854775808 x
def flotsamref11_Page_s1r (v11 : Int) (c0 : Heap) : Option (SRes (.cons cI (.cons cHeap .nil)) .nil (.cons cI (.cons .bool .nil))) :=
  bif decide (v11 < (c0.2.1.length : Int)) then
    bif decide (0 ≤ v11) then
      bif decide (v11 < (c0.2.1.length : Int)) then
        bif (c0.2.1.getD v11.toNat (0, 0, 0, ())).1 == 0 then
          some (.fin (.ret (v11, true, ())))
        else
        some (.next (wi64 (v11 + 1), c0, ()))
      else none
    else none
  else
  some (.fin (.out ()))
def flotsamref11_Page_s1 (x : Int × Heap × Unit) : Option (SRes (.cons cI (.cons cHeap .nil)) .nil (.cons cI (.cons .bool .nil))) := flotsamref11_Page_s1r x.1 x.2.1
def flotsamref11_Page_l1 (x : Int × Heap × Unit) : Option (LRes .nil (.cons cI (.cons .bool .nil))) := iterL (h := (.cons cI (.cons cHeap .nil))) (o := .nil) (r := (.cons cI (.cons .bool .nil))) flotsamref11_Page_s1 9223372036854775808 x
def flotsamref11_Page_r (a0 : Heap) (a1 : List (List Int)) (a2 : Int) (a3 : Int) : Option (Int × Bool × Unit) :=
  bif decide (0 ≤ a2) then
    bif decide (a2 < (a1.length : Int)) then
      bif decide (0 ≤ a3) then
        bif decide (a3 < 4) then
          bif decide (((a1.getD a2.toNat (List.replicate 4 0)).getD a3.toNat 0) ≥ 0) then
            bif decide (0 ≤ a2) then
              bif decide (a2 < (a1.length : Int)) then
                bif decide (0 ≤ a3) then
                  bif decide (a3 < 4) then
                    bif decide (0 ≤ ((a1.getD a2.toNat (List.replicate 4 0)).getD a3.toNat 0)) then
                      bif decide (((a1.getD a2.toNat (List.replicate 4 0)).getD a3.toNat 0) < (a0.2.1.length : Int)) then
                        (flotsamref11_open (a0.2.1.getD ((a1.getD a2.toNat (List.replicate 4 0)).getD a3.toNat 0).toNat (0, 0, 0, ()), ())).bind fun y1 =>
                        bif y1.1 then
                          bif decide (0 ≤ a2) then
                            bif decide (a2 < (a1.length : Int)) then
                              bif decide (0 ≤ a3) then
                                bif decide (a3 < 4) then
                                  some ((a1.getD a2.toNat (List.replicate 4 0)).getD a3.toNat 0, true, ())
                                else none
                              else none
                            else none
                          else none
                        else
                        (flotsamref11_Page_l0 (a1, a3, 0, a0, ())).bind fun s4 => match s4 with
                        | .out s4 =>
                          (flotsamref11_Page_l1 (0, s4.1, ())).bind fun s5 => match s5 with
                          | .out s5 =>
                            some (0, false, ())
                          | .ret s5 =>
                            some (s5.1, s5.2.1, ())
                        | .ret s4 =>
                          some (s4.1, s4.2.1, ())
                      else none
                    else none
                  else none
                else none
              else none
            else none
          else
          (flotsamref11_Page_l0 (a1, a3, 0, a0, ())).bind fun s6 => match s6 with
          | .out s6 =>
            (flotsamref11_Page_l1 (0, s6.1, ())).bind fun s7 => match s7 with
            | .out s7 =>
              some (0, false, ())
            | .ret s7 =>
              some (s7.1, s7.2.1, ())
          | .ret s6 =>
            some (s6.1, s6.2.1, ())
        else none
      else none
    else none
  else none
def flotsamref11_Page (x : Heap × (List (List Int)) × Int × Int × Unit) : Option (Int × Bool × Unit) := flotsamref11_Page_r x.1 x.2.1 x.2.2.1 x.2.2.2.1
noncomputable def flotsamref11_Page_sm : Sum := ⟨(.cons cHeap (.cons (.sl (.arr 4 cI)) (.cons cI (.cons cI .nil)))), (.cons (.d cI) (.cons (.d .bool) .nil)), flotsamref11_Page⟩
noncomputable def flotsamref11_Page_L0 : LoopSum := { hc := ⟨[], [1, 3, 4, 10], [], [], [0], [], 384⟩, h := ⟨[(1, (.d (.sl (.arr 4 cI)))), (3, (.d cI)), (4, (.pvar 0 [])), (10, (.d cI))], [(0, (.d cHeap))], [], 384⟩, xid := 0, oc := ⟨[], [4], [], [], [0], [], 384⟩, o := ⟨[(4, (.pvar 0 []))], [(0, (.d cHeap))], [], 384⟩, rc := ⟨[], [8, 9], [], [], [], [], 384⟩, r := ⟨[(8, (.d cI)), (9, (.d .bool))], [], [], 384⟩, F := flotsamref11_Page_l0 }
noncomputable def flotsamref11_Page_L1 : LoopSum := { hc := ⟨[], [4, 11], [], [], [0], [], 400⟩, h := ⟨[(4, (.pvar 0 [])), (11, (.d cI))], [(0, (.d cHeap))], [], 400⟩, xid := 2, oc := ⟨[], [], [], [], [], [], 400⟩, o := ⟨[], [], [], 400⟩, rc := ⟨[], [8, 9], [], [], [], [], 400⟩, r := ⟨[(8, (.d cI)), (9, (.d .bool))], [], [], 400⟩, F := flotsamref11_Page_l1 }
noncomputable def flotsamref11_Page_S : List (Nat × Sum) := [(14, flotsamref11_Kept_sm), (33, flotsamref11_open_sm)]
noncomputable def flotsamref11_Page_fl : List (Nat × Func) := []
noncomputable def flotsamref11_Page_es : List AE := [⟨8, 17, 0, 0, flotsamref11_Page_L0⟩, ⟨8, 17, 0, 2, flotsamref11_Page_L1⟩]
theorem flotsamref11_Page_den0 : (fun x => denStep TEv (look1 flotsamref11_Page_S) (look1 flotsamref11_Page_fl) (annOf flotsamref11_Page_es) 8 17 Go.Proofs.Tryd.f17.ntmps 0 (cat (bodyOf Go.Proofs.Tryd.f17) [true, true, false, true, false, false]) flotsamref11_Page_L0 x) = flotsamref11_Page_s0 := by kernel_rfl
theorem flotsamref11_Page_den1 : (fun x => denStep TEv (look1 flotsamref11_Page_S) (look1 flotsamref11_Page_fl) (annOf flotsamref11_Page_es) 8 17 Go.Proofs.Tryd.f17.ntmps 0 (cat (bodyOf Go.Proofs.Tryd.f17) [true, true, true, false, true, false, false]) flotsamref11_Page_L1 x) = flotsamref11_Page_s1 := by kernel_rfl
theorem flotsamref11_Page_den : (fun x => denFun TEv (look1 flotsamref11_Page_S) (look1 flotsamref11_Page_fl) (annOf flotsamref11_Page_es) 8 17 Go.Proofs.Tryd.f17 flotsamref11_Page_sm.a flotsamref11_Page_sm.r x) = flotsamref11_Page_sm.F := by kernel_rfl
theorem flotsamref11_Page_ok0 : AEok Go.Proofs.Tryd.prog TEv (look1 flotsamref11_Page_S) (look1 flotsamref11_Page_fl) (annOf flotsamref11_Page_es) ⟨8, 17, 0, 0, flotsamref11_Page_L0⟩ := aeok_of 9223372036854775808 Go.Proofs.Tryd.func17 (by kernel_rfl) flotsamref11_Page_den0 (by kernel_rfl)
theorem flotsamref11_Page_ok1 : AEok Go.Proofs.Tryd.prog TEv (look1 flotsamref11_Page_S) (look1 flotsamref11_Page_fl) (annOf flotsamref11_Page_es) ⟨8, 17, 0, 2, flotsamref11_Page_L1⟩ := aeok_of 9223372036854775808 Go.Proofs.Tryd.func17 (by kernel_rfl) flotsamref11_Page_den1 (by kernel_rfl)
theorem flotsamref11_Page_sem : SemOf Go.Proofs.Tryd.prog 17 flotsamref11_Page_sm :=
  semMk teOk (sl := flotsamref11_Page_S) (all_cons flotsamref11_Kept_sem (all_cons flotsamref11_open_sem all_nil)) (fl := flotsamref11_Page_fl) (all_nil) (es := flotsamref11_Page_es) Go.Proofs.Tryd.func17 (by kernel_rfl) rfl (all_cons flotsamref11_Page_ok0 (all_cons flotsamref11_Page_ok1 (all_nil))) rfl flotsamref11_Page_den

/-! ### flotsam/flotsamref04.Of -/
def flotsamref04_Of_r (a0 : Int) : Option (Int × Bool × Unit) :=
  bif decide (a0 < 0) then
    some (0, false, ())
  else
  bif decide (a0 > 15) then
    some (0, false, ())
  else
  bif decide (a0 ≤ 1) then
    some (0, true, ())
  else
  bif decide (a0 ≤ 3) then
    some (1, true, ())
  else
  bif decide (a0 ≤ 7) then
    some (2, true, ())
  else
  some (3, true, ())
def flotsamref04_Of (x : Int × Unit) : Option (Int × Bool × Unit) := flotsamref04_Of_r x.1
noncomputable def flotsamref04_Of_sm : Sum := ⟨(.cons cI .nil), (.cons (.d cI) (.cons (.d .bool) .nil)), flotsamref04_Of⟩
noncomputable def flotsamref04_Of_S : List (Nat × Sum) := []
noncomputable def flotsamref04_Of_fl : List (Nat × Func) := []
noncomputable def flotsamref04_Of_es : List AE := []
theorem flotsamref04_Of_den : (fun x => denFun TEv (look1 flotsamref04_Of_S) (look1 flotsamref04_Of_fl) (annOf flotsamref04_Of_es) 8 38 Go.Proofs.Tryd.f38 flotsamref04_Of_sm.a flotsamref04_Of_sm.r x) = flotsamref04_Of_sm.F := by kernel_rfl
theorem flotsamref04_Of_sem : SemOf Go.Proofs.Tryd.prog 38 flotsamref04_Of_sm :=
  semMk teOk (sl := flotsamref04_Of_S) (all_nil) (fl := flotsamref04_Of_fl) (all_nil) (es := flotsamref04_Of_es) Go.Proofs.Tryd.func38 (by kernel_rfl) rfl (all_nil) rfl flotsamref04_Of_den

/-! ### flotsam/flotsamref04.Blocks -/
def flotsamref04_Blocks_s0r (v0 : Int) (v3 : Int) (v4 : Int) : Option (SRes (.cons cI (.cons cI (.cons cI .nil))) (.cons cI .nil) .nil) :=
  bif decide (v4 < v0) then
    some (.next (v0, wi64 (v3.tdiv 2), wi64 (v4 + 1), ()))
  else
  some (.fin (.out (v3, ())))
def flotsamref04_Blocks_s0 (x : Int × Int × Int × Unit) : Option (SRes (.cons cI (.cons cI (.cons cI .nil))) (.cons cI .nil) .nil) := flotsamref04_Blocks_s0r x.1 x.2.1 x.2.2.1
def flotsamref04_Blocks_l0 (x : Int × Int × Int × Unit) : Option (LRes (.cons cI .nil) .nil) := iterL (h := (.cons cI (.cons cI (.cons cI .nil)))) (o := (.cons cI .nil)) (r := .nil) flotsamref04_Blocks_s0 9223372036854775808 x
def flotsamref04_Blocks_r (a0 : Int) : Option (Int × Unit) :=
  bif decide (a0 < 0) then
    some (0, ())
  else
  bif decide (a0 > 3) then
    some (0, ())
  else
  (flotsamref04_Blocks_l0 (a0, 16, 0, ())).bind fun s1 => match s1 with
  | .out s1 =>
    some (s1.1, ())
  | .ret s1 =>
    none
def flotsamref04_Blocks (x : Int × Unit) : Option (Int × Unit) := flotsamref04_Blocks_r x.1
noncomputable def flotsamref04_Blocks_sm : Sum := ⟨(.cons cI .nil), (.cons (.d cI) .nil), flotsamref04_Blocks⟩
noncomputable def flotsamref04_Blocks_L0 : LoopSum := { hc := ⟨[], [0, 3, 4], [], [], [], [], 144⟩, h := ⟨[(0, (.d cI)), (3, (.d cI)), (4, (.d cI))], [], [], 144⟩, xid := 0, oc := ⟨[], [3], [], [], [], [], 144⟩, o := ⟨[(3, (.d cI))], [], [], 144⟩, rc := ⟨[], [], [], [], [144], [], 144⟩, r := ⟨[], [], [], 144⟩, F := flotsamref04_Blocks_l0 }
noncomputable def flotsamref04_Blocks_S : List (Nat × Sum) := []
noncomputable def flotsamref04_Blocks_fl : List (Nat × Func) := []
noncomputable def flotsamref04_Blocks_es : List AE := [⟨8, 45, 0, 0, flotsamref04_Blocks_L0⟩]
theorem flotsamref04_Blocks_den0 : (fun x => denStep TEv (look1 flotsamref04_Blocks_S) (look1 flotsamref04_Blocks_fl) (annOf flotsamref04_Blocks_es) 8 45 Go.Proofs.Tryd.f45.ntmps 0 (cat (bodyOf Go.Proofs.Tryd.f45) [true, true, true, false, true, false, false]) flotsamref04_Blocks_L0 x) = flotsamref04_Blocks_s0 := by kernel_rfl
theorem flotsamref04_Blocks_den : (fun x => denFun TEv (look1 flotsamref04_Blocks_S) (look1 flotsamref04_Blocks_fl) (annOf flotsamref04_Blocks_es) 8 45 Go.Proofs.Tryd.f45 flotsamref04_Blocks_sm.a flotsamref04_Blocks_sm.r x) = flotsamref04_Blocks_sm.F := by kernel_rfl
theorem flotsamref04_Blocks_ok0 : AEok Go.Proofs.Tryd.prog TEv (look1 flotsamref04_Blocks_S) (look1 flotsamref04_Blocks_fl) (annOf flotsamref04_Blocks_es) ⟨8, 45, 0, 0, flotsamref04_Blocks_L0⟩ := aeok_of 9223372036854775808 Go.Proofs.Tryd.func45 (by kernel_rfl) flotsamref04_Blocks_den0 (by kernel_rfl)
theorem flotsamref04_Blocks_sem : SemOf Go.Proofs.Tryd.prog 45 flotsamref04_Blocks_sm :=
  semMk teOk (sl := flotsamref04_Blocks_S) (all_nil) (fl := flotsamref04_Blocks_fl) (all_nil) (es := flotsamref04_Blocks_es) Go.Proofs.Tryd.func45 (by kernel_rfl) rfl (all_cons flotsamref04_Blocks_ok0 (all_nil)) rfl flotsamref04_Blocks_den

/-! ### flotsam/flotsamref07.with -/
def flotsamref07_with_s0r (v1 : Int) (v8 : Int) (c0 : Heap) (c16 : Span) (c32 : Bool × Unit) (c96 : Bool × Unit) (r192 : List Int) (r256 : List Span) : Option (SRes (.cons cI (.cons cI (.cons cHeap (.cons cSpan (.cons (.cons .bool .nil) (.cons (.cons .bool .nil) (.cons (.sl (.int .u64)) (.cons (.sl cSpan) .nil)))))))) (.cons (.cons .bool .nil) (.cons (.cons .bool .nil) (.cons (.sl (.int .u64)) (.cons (.sl cSpan) .nil)))) .nil) :=
  bif decide (v8 < (c0.2.1.length : Int)) then
    bif decide (0 ≤ v8) then
      bif decide (v8 < (c0.2.1.length : Int)) then
        bif v8 == v1 then
          bif decide ((r256.length + 1) * 24 ≤ 140737488355328) then
            some (.next (v1, wi64 (v8 + 1), c0, c16, c32, c96, r192, r256 ++ [c16], ()))
          else none
        else
        bif decide ((r256.length + 1) * 24 ≤ 140737488355328) then
          some (.next (v1, wi64 (v8 + 1), c0, c16, c32, c96, r192, r256 ++ [c0.2.1.getD v8.toNat (0, 0, 0, ())], ()))
        else none
      else none
    else none
  else
  some (.fin (.out (c32, c96, r192, r256, ())))
def flotsamref07_with_s0 (x : Int × Int × Heap × Span × (Bool × Unit) × (Bool × Unit) × (List Int) × (List Span) × Unit) : Option (SRes (.cons cI (.cons cI (.cons cHeap (.cons cSpan (.cons (.cons .bool .nil) (.cons (.cons .bool .nil) (.cons (.sl (.int .u64)) (.cons (.sl cSpan) .nil)))))))) (.cons (.cons .bool .nil) (.cons (.cons .bool .nil) (.cons (.sl (.int .u64)) (.cons (.sl cSpan) .nil)))) .nil) := flotsamref07_with_s0r x.1 x.2.1 x.2.2.1 x.2.2.2.1 x.2.2.2.2.1 x.2.2.2.2.2.1 x.2.2.2.2.2.2.1 x.2.2.2.2.2.2.2.1
def flotsamref07_with_l0 (x : Int × Int × Heap × Span × (Bool × Unit) × (Bool × Unit) × (List Int) × (List Span) × Unit) : Option (LRes (.cons (.cons .bool .nil) (.cons (.cons .bool .nil) (.cons (.sl (.int .u64)) (.cons (.sl cSpan) .nil)))) .nil) := iterL (h := (.cons cI (.cons cI (.cons cHeap (.cons cSpan (.cons (.cons .bool .nil) (.cons (.cons .bool .nil) (.cons (.sl (.int .u64)) (.cons (.sl cSpan) .nil))))))))) (o := (.cons (.cons .bool .nil) (.cons (.cons .bool .nil) (.cons (.sl (.int .u64)) (.cons (.sl cSpan) .nil))))) (r := .nil) flotsamref07_with_s0 9223372036854775808 x
def flotsamref07_with_r (a0 : Heap) (a1 : Int) (a2 : Span) : Option (Heap × Unit) :=
  bif decide (a0.1.length * 8 ≤ 140737488355328) then
    (flotsamref07_with_l0 (a1, 0, a0, a2, (false, ()), (a0.2.2.1, ()), a0.1, [], ())).bind fun s1 => match s1 with
    | .out s1 =>
      some ((s1.2.2.1, s1.2.2.2.1, s1.2.1), ())
    | .ret s1 =>
      none
  else none
def flotsamref07_with (x : Heap × Int × Span × Unit) : Option (Heap × Unit) := flotsamref07_with_r x.1 x.2.1 x.2.2.1
noncomputable def flotsamref07_with_sm : Sum := ⟨(.cons cHeap (.cons cI (.cons cSpan .nil))), (.cons (.cons (.own (.int .u64)) (.cons (.own cSpan) (.d (.cons .bool .nil)))) .nil), flotsamref07_with⟩
noncomputable def flotsamref07_with_L0 : LoopSum := { hc := ⟨[], [1, 3, 5, 6, 7, 8], [(.key 96 [.fld 1], cSpan)], [], [0, 16, 32, 96], [192], 256⟩, h := ⟨[(1, (.d cI)), (3, (.pvar 0 [])), (5, (.pvar 16 [])), (6, (.pvar 32 [])), (7, (.pvar 96 [])), (8, (.d cI))], [(0, (.d cHeap)), (16, (.d cSpan)), (32, (.cons .nilsl (.cons .nilsl (.d (.cons .bool .nil))))), (96, (.cons (.row 192) (.cons (.row 256) (.d (.cons .bool .nil)))))], [(192, (.int .u64), true), (256, cSpan, true)], 257⟩, xid := 0, oc := ⟨[], [6, 7], [(.ptr 7 [.fld 1], cSpan)], [], [32, 96], [192], 256⟩, o := ⟨[(6, (.pvar 32 [])), (7, (.pvar 96 []))], [(32, (.cons .nilsl (.cons .nilsl (.d (.cons .bool .nil))))), (96, (.cons (.row 192) (.cons (.row 256) (.d (.cons .bool .nil)))))], [(192, (.int .u64), true), (256, cSpan, true)], 257⟩, rc := ⟨[], [], [], [], [256], [], 256⟩, r := ⟨[], [], [], 256⟩, F := flotsamref07_with_l0 }
noncomputable def flotsamref07_with_S : List (Nat × Sum) := []
noncomputable def flotsamref07_with_fl : List (Nat × Func) := []
noncomputable def flotsamref07_with_es : List AE := [⟨8, 65, 0, 0, flotsamref07_with_L0⟩]
theorem flotsamref07_with_den0 : (fun x => denStep TEv (look1 flotsamref07_with_S) (look1 flotsamref07_with_fl) (annOf flotsamref07_with_es) 8 65 Go.Proofs.Tryd.f65.ntmps 0 (cat (bodyOf Go.Proofs.Tryd.f65) [true, true, true, false, true, false, false]) flotsamref07_with_L0 x) = flotsamref07_with_s0 := by kernel_rfl
theorem flotsamref07_with_den : (fun x => denFun TEv (look1 flotsamref07_with_S) (look1 flotsamref07_with_fl) (annOf flotsamref07_with_es) 8 65 Go.Proofs.Tryd.f65 flotsamref07_with_sm.a flotsamref07_with_sm.r x) = flotsamref07_with_sm.F := by kernel_rfl
theorem flotsamref07_with_ok0 : AEok Go.Proofs.Tryd.prog TEv (look1 flotsamref07_with_S) (look1 flotsamref07_with_fl) (annOf flotsamref07_with_es) ⟨8, 65, 0, 0, flotsamref07_with_L0⟩ := aeok_of 9223372036854775808 Go.Proofs.Tryd.func65 (by kernel_rfl) flotsamref07_with_den0 (by kernel_rfl)
theorem flotsamref07_with_sem : SemOf Go.Proofs.Tryd.prog 65 flotsamref07_with_sm :=
  semMk teOk (sl := flotsamref07_with_S) (all_nil) (fl := flotsamref07_with_fl) (all_nil) (es := flotsamref07_with_es) Go.Proofs.Tryd.func65 (by kernel_rfl) rfl (all_cons flotsamref07_with_ok0 (all_nil)) rfl flotsamref07_with_den

/-! ### flotsam/flotsamref03.Of -/
def flotsamref03_Of_s0r (v3 : Int) (v4 : Int) (c0 : List Bool) : Option (SRes (.cons (.int .u32) (.cons cI (.cons (.arr 32 .bool) .nil))) (.cons (.int .u32) .nil) .nil) :=
  bif decide (v4 ≥ 0) then
    bif decide (0 ≤ v4) then
      bif decide (v4 < 32) then
        bif c0.getD v4.toNat false then
          some (.next (wu32 ((wu32 (2 * v3)) + 1), wi64 (v4 - 1), c0, ()))
        else
        some (.next (wu32 (2 * v3), wi64 (v4 - 1), c0, ()))
      else none
    else none
  else
  some (.fin (.out (v3, ())))
def flotsamref03_Of_s0 (x : Int × Int × (List Bool) × Unit) : Option (SRes (.cons (.int .u32) (.cons cI (.cons (.arr 32 .bool) .nil))) (.cons (.int .u32) .nil) .nil) := flotsamref03_Of_s0r x.1 x.2.1 x.2.2.1
def flotsamref03_Of_l0 (x : Int × Int × (List Bool) × Unit) : Option (LRes (.cons (.int .u32) .nil) .nil) := iterL (h := (.cons (.int .u32) (.cons cI (.cons (.arr 32 .bool) .nil)))) (o := (.cons (.int .u32) .nil)) (r := .nil) flotsamref03_Of_s0 9223372036854775808 x
def flotsamref03_Of_r (a0 : List Bool) : Option (Int × Unit) :=
  (flotsamref03_Of_l0 (0, 31, a0, ())).bind fun s1 => match s1 with
  | .out s1 =>
    some (s1.1, ())
  | .ret s1 =>
    none
def flotsamref03_Of (x : (List Bool) × Unit) : Option (Int × Unit) := flotsamref03_Of_r x.1
noncomputable def flotsamref03_Of_sm : Sum := ⟨(.cons (.arr 32 .bool) .nil), (.cons (.d (.int .u32)) .nil), flotsamref03_Of⟩
noncomputable def flotsamref03_Of_L0 : LoopSum := { hc := ⟨[], [1, 3, 4], [], [], [0], [], 64⟩, h := ⟨[(1, (.pvar 0 [])), (3, (.d (.int .u32))), (4, (.d cI))], [(0, (.d (.arr 32 .bool)))], [], 64⟩, xid := 0, oc := ⟨[], [3], [], [], [], [], 64⟩, o := ⟨[(3, (.d (.int .u32)))], [], [], 64⟩, rc := ⟨[], [], [], [], [64], [], 64⟩, r := ⟨[], [], [], 64⟩, F := flotsamref03_Of_l0 }
noncomputable def flotsamref03_Of_S : List (Nat × Sum) := []
noncomputable def flotsamref03_Of_fl : List (Nat × Func) := []
noncomputable def flotsamref03_Of_es : List AE := [⟨8, 86, 0, 0, flotsamref03_Of_L0⟩]
theorem flotsamref03_Of_den0 : (fun x => denStep TEv (look1 flotsamref03_Of_S) (look1 flotsamref03_Of_fl) (annOf flotsamref03_Of_es) 8 86 Go.Proofs.Tryd.f86.ntmps 0 (cat (bodyOf Go.Proofs.Tryd.f86) [true, true, false, true, false, false]) flotsamref03_Of_L0 x) = flotsamref03_Of_s0 := by kernel_rfl
theorem flotsamref03_Of_den : (fun x => denFun TEv (look1 flotsamref03_Of_S) (look1 flotsamref03_Of_fl) (annOf flotsamref03_Of_es) 8 86 Go.Proofs.Tryd.f86 flotsamref03_Of_sm.a flotsamref03_Of_sm.r x) = flotsamref03_Of_sm.F := by kernel_rfl
theorem flotsamref03_Of_ok0 : AEok Go.Proofs.Tryd.prog TEv (look1 flotsamref03_Of_S) (look1 flotsamref03_Of_fl) (annOf flotsamref03_Of_es) ⟨8, 86, 0, 0, flotsamref03_Of_L0⟩ := aeok_of 9223372036854775808 Go.Proofs.Tryd.func86 (by kernel_rfl) flotsamref03_Of_den0 (by kernel_rfl)
theorem flotsamref03_Of_sem : SemOf Go.Proofs.Tryd.prog 86 flotsamref03_Of_sm :=
  semMk teOk (sl := flotsamref03_Of_S) (all_nil) (fl := flotsamref03_Of_fl) (all_nil) (es := flotsamref03_Of_es) Go.Proofs.Tryd.func86 (by kernel_rfl) rfl (all_cons flotsamref03_Of_ok0 (all_nil)) rfl flotsamref03_Of_den

/-! ### flotsam/flotsamref03.Whole -/
def flotsamref03_Whole_s0r (v0 : Int) (v4 : Int) (c16 : List Bool) : Option (SRes (.cons cI (.cons cI (.cons (.arr 32 .bool) .nil))) (.cons (.arr 32 .bool) .nil) .nil) :=
  bif decide (v4 < 32) then
    bif decide (0 ≤ v4) then
      bif decide (v4 < 32) then
        some (.next (v0, wi64 (v4 + 1), c16.set v4.toNat (decide (v4 < v0)), ()))
      else none
    else none
  else
  some (.fin (.out (c16, ())))
def flotsamref03_Whole_s0 (x : Int × Int × (List Bool) × Unit) : Option (SRes (.cons cI (.cons cI (.cons (.arr 32 .bool) .nil))) (.cons (.arr 32 .bool) .nil) .nil) := flotsamref03_Whole_s0r x.1 x.2.1 x.2.2.1
def flotsamref03_Whole_l0 (x : Int × Int × (List Bool) × Unit) : Option (LRes (.cons (.arr 32 .bool) .nil) .nil) := iterL (h := (.cons cI (.cons cI (.cons (.arr 32 .bool) .nil)))) (o := (.cons (.arr 32 .bool) .nil)) (r := .nil) flotsamref03_Whole_s0 9223372036854775808 x
def flotsamref03_Whole_r (a0 : Int) : Option (Int × Unit) :=
  (flotsamref03_Whole_l0 (a0, 0, List.replicate 32 false, ())).bind fun s1 => match s1 with
  | .out s1 =>
    (flotsamref03_Of (s1.1, ())).bind fun y2 =>
    some (y2.1, ())
  | .ret s1 =>
    none
def flotsamref03_Whole (x : Int × Unit) : Option (Int × Unit) := flotsamref03_Whole_r x.1
noncomputable def flotsamref03_Whole_sm : Sum := ⟨(.cons cI .nil), (.cons (.d (.int .u32)) .nil), flotsamref03_Whole⟩
noncomputable def flotsamref03_Whole_L0 : LoopSum := { hc := ⟨[], [0, 3, 4], [], [], [16], [], 48⟩, h := ⟨[(0, (.d cI)), (3, (.pvar 16 [])), (4, (.d cI))], [(16, (.d (.arr 32 .bool)))], [], 48⟩, xid := 0, oc := ⟨[], [3], [], [], [16], [], 48⟩, o := ⟨[(3, (.pvar 16 []))], [(16, (.d (.arr 32 .bool)))], [], 48⟩, rc := ⟨[], [], [], [], [48], [], 48⟩, r := ⟨[], [], [], 48⟩, F := flotsamref03_Whole_l0 }
noncomputable def flotsamref03_Whole_S : List (Nat × Sum) := [(86, flotsamref03_Of_sm)]
noncomputable def flotsamref03_Whole_fl : List (Nat × Func) := []
noncomputable def flotsamref03_Whole_es : List AE := [⟨8, 66, 0, 0, flotsamref03_Whole_L0⟩]
theorem flotsamref03_Whole_den0 : (fun x => denStep TEv (look1 flotsamref03_Whole_S) (look1 flotsamref03_Whole_fl) (annOf flotsamref03_Whole_es) 8 66 Go.Proofs.Tryd.f66.ntmps 0 (cat (bodyOf Go.Proofs.Tryd.f66) [true, true, false, true, false, false]) flotsamref03_Whole_L0 x) = flotsamref03_Whole_s0 := by kernel_rfl
theorem flotsamref03_Whole_den : (fun x => denFun TEv (look1 flotsamref03_Whole_S) (look1 flotsamref03_Whole_fl) (annOf flotsamref03_Whole_es) 8 66 Go.Proofs.Tryd.f66 flotsamref03_Whole_sm.a flotsamref03_Whole_sm.r x) = flotsamref03_Whole_sm.F := by kernel_rfl
theorem flotsamref03_Whole_ok0 : AEok Go.Proofs.Tryd.prog TEv (look1 flotsamref03_Whole_S) (look1 flotsamref03_Whole_fl) (annOf flotsamref03_Whole_es) ⟨8, 66, 0, 0, flotsamref03_Whole_L0⟩ := aeok_of 9223372036854775808 Go.Proofs.Tryd.func66 (by kernel_rfl) flotsamref03_Whole_den0 (by kernel_rfl)
theorem flotsamref03_Whole_sem : SemOf Go.Proofs.Tryd.prog 66 flotsamref03_Whole_sm :=
  semMk teOk (sl := flotsamref03_Whole_S) (all_cons flotsamref03_Of_sem all_nil) (fl := flotsamref03_Whole_fl) (all_nil) (es := flotsamref03_Whole_es) Go.Proofs.Tryd.func66 (by kernel_rfl) rfl (all_cons flotsamref03_Whole_ok0 (all_nil)) rfl flotsamref03_Whole_den

/-! ### flotsam/flotsamref07.Open -/
def flotsamref07_Open_r (a0 : Heap) (a1 : Int) (a2 : Int) : Option (Heap × Bool × Unit) :=
  bif decide (a1 < 0) then
    some (a0, false, ())
  else
  bif decide (a1 ≥ (a0.2.1.length : Int)) then
    some (a0, false, ())
  else
  bif decide (a2 < 0) then
    some (a0, false, ())
  else
  bif decide (a2 > 3) then
    some (a0, false, ())
  else
  bif decide (0 ≤ a1) then
    bif decide (a1 < (a0.2.1.length : Int)) then
      bif (a0.2.1.getD a1.toNat (0, 0, 0, ())).1 != 0 then
        some (a0, false, ())
      else
      (flotsamref04_Blocks (a2, ())).bind fun y1 =>
      (flotsamref03_Whole (y1.1, ())).bind fun y2 =>
      (flotsamref07_with (a0, a1, (1, a2, y2.1, ()), ())).bind fun y3 =>
      some ((y3.1.1, y3.1.2.1, y3.1.2.2), true, ())
    else none
  else none
def flotsamref07_Open (x : Heap × Int × Int × Unit) : Option (Heap × Bool × Unit) := flotsamref07_Open_r x.1 x.2.1 x.2.2.1
noncomputable def flotsamref07_Open_sm : Sum := ⟨(.cons cHeap (.cons cI (.cons cI .nil))), (.cons (.d cHeap) (.cons (.d .bool) .nil)), flotsamref07_Open⟩
noncomputable def flotsamref07_Open_S : List (Nat × Sum) := [(45, flotsamref04_Blocks_sm), (65, flotsamref07_with_sm), (66, flotsamref03_Whole_sm)]
noncomputable def flotsamref07_Open_fl : List (Nat × Func) := []
noncomputable def flotsamref07_Open_es : List AE := []
theorem flotsamref07_Open_den : (fun x => denFun TEv (look1 flotsamref07_Open_S) (look1 flotsamref07_Open_fl) (annOf flotsamref07_Open_es) 8 39 Go.Proofs.Tryd.f39 flotsamref07_Open_sm.a flotsamref07_Open_sm.r x) = flotsamref07_Open_sm.F := by kernel_rfl
theorem flotsamref07_Open_sem : SemOf Go.Proofs.Tryd.prog 39 flotsamref07_Open_sm :=
  semMk teOk (sl := flotsamref07_Open_S) (all_cons flotsamref04_Blocks_sem (all_cons flotsamref07_with_sem (all_cons flotsamref03_Whole_sem all_nil))) (fl := flotsamref07_Open_fl) (all_nil) (es := flotsamref07_Open_es) Go.Proofs.Tryd.func39 (by kernel_rfl) rfl (all_nil) rfl flotsamref07_Open_den

/-! ### flotsam/flotsamref02.Put -/
def flotsamref02_Put_r (a0 : Hdr) : Option (Int × Unit) :=
  bif !a0.1 then
    some (0, ())
  else
  bif a0.2.1 then
    some (wu64 (wi64 ((wi64 ((wi64 (128 + (wi64 (16 * a0.2.2.1)))) + a0.2.2.2.1)) + 64)), ())
  else
  some (wu64 (wi64 ((wi64 (128 + (wi64 (16 * a0.2.2.1)))) + a0.2.2.2.1)), ())
def flotsamref02_Put (x : Hdr × Unit) : Option (Int × Unit) := flotsamref02_Put_r x.1
noncomputable def flotsamref02_Put_sm : Sum := ⟨(.cons cHdr .nil), (.cons (.d (.int .u64)) .nil), flotsamref02_Put⟩
noncomputable def flotsamref02_Put_S : List (Nat × Sum) := []
noncomputable def flotsamref02_Put_fl : List (Nat × Func) := []
noncomputable def flotsamref02_Put_es : List AE := []
theorem flotsamref02_Put_den : (fun x => denFun TEv (look1 flotsamref02_Put_S) (look1 flotsamref02_Put_fl) (annOf flotsamref02_Put_es) 8 44 Go.Proofs.Tryd.f44 flotsamref02_Put_sm.a flotsamref02_Put_sm.r x) = flotsamref02_Put_sm.F := by kernel_rfl
theorem flotsamref02_Put_sem : SemOf Go.Proofs.Tryd.prog 44 flotsamref02_Put_sm :=
  semMk teOk (sl := flotsamref02_Put_S) (all_nil) (fl := flotsamref02_Put_fl) (all_nil) (es := flotsamref02_Put_es) Go.Proofs.Tryd.func44 (by kernel_rfl) rfl (all_nil) rfl flotsamref02_Put_den

/-! ### flotsam/flotsamref04.Words -/
def flotsamref04_Words_s0r (v0 : Int) (v3 : Int) (v4 : Int) : Option (SRes (.cons cI (.cons cI (.cons cI .nil))) (.cons cI .nil) .nil) :=
  bif decide (v4 < v0) then
    some (.next (v0, wi64 (2 * v3), wi64 (v4 + 1), ()))
  else
  some (.fin (.out (v3, ())))
def flotsamref04_Words_s0 (x : Int × Int × Int × Unit) : Option (SRes (.cons cI (.cons cI (.cons cI .nil))) (.cons cI .nil) .nil) := flotsamref04_Words_s0r x.1 x.2.1 x.2.2.1
def flotsamref04_Words_l0 (x : Int × Int × Int × Unit) : Option (LRes (.cons cI .nil) .nil) := iterL (h := (.cons cI (.cons cI (.cons cI .nil)))) (o := (.cons cI .nil)) (r := .nil) flotsamref04_Words_s0 9223372036854775808 x
def flotsamref04_Words_r (a0 : Int) : Option (Int × Unit) :=
  bif decide (a0 < 0) then
    some (0, ())
  else
  bif decide (a0 > 3) then
    some (0, ())
  else
  (flotsamref04_Words_l0 (a0, 2, 0, ())).bind fun s1 => match s1 with
  | .out s1 =>
    some (s1.1, ())
  | .ret s1 =>
    none
def flotsamref04_Words (x : Int × Unit) : Option (Int × Unit) := flotsamref04_Words_r x.1
noncomputable def flotsamref04_Words_sm : Sum := ⟨(.cons cI .nil), (.cons (.d cI) .nil), flotsamref04_Words⟩
noncomputable def flotsamref04_Words_L0 : LoopSum := { hc := ⟨[], [0, 3, 4], [], [], [], [], 144⟩, h := ⟨[(0, (.d cI)), (3, (.d cI)), (4, (.d cI))], [], [], 144⟩, xid := 0, oc := ⟨[], [3], [], [], [], [], 144⟩, o := ⟨[(3, (.d cI))], [], [], 144⟩, rc := ⟨[], [], [], [], [144], [], 144⟩, r := ⟨[], [], [], 144⟩, F := flotsamref04_Words_l0 }
noncomputable def flotsamref04_Words_S : List (Nat × Sum) := []
noncomputable def flotsamref04_Words_fl : List (Nat × Func) := []
noncomputable def flotsamref04_Words_es : List AE := [⟨8, 47, 0, 0, flotsamref04_Words_L0⟩]
theorem flotsamref04_Words_den0 : (fun x => denStep TEv (look1 flotsamref04_Words_S) (look1 flotsamref04_Words_fl) (annOf flotsamref04_Words_es) 8 47 Go.Proofs.Tryd.f47.ntmps 0 (cat (bodyOf Go.Proofs.Tryd.f47) [true, true, true, false, true, false, false]) flotsamref04_Words_L0 x) = flotsamref04_Words_s0 := by kernel_rfl
theorem flotsamref04_Words_den : (fun x => denFun TEv (look1 flotsamref04_Words_S) (look1 flotsamref04_Words_fl) (annOf flotsamref04_Words_es) 8 47 Go.Proofs.Tryd.f47 flotsamref04_Words_sm.a flotsamref04_Words_sm.r x) = flotsamref04_Words_sm.F := by kernel_rfl
theorem flotsamref04_Words_ok0 : AEok Go.Proofs.Tryd.prog TEv (look1 flotsamref04_Words_S) (look1 flotsamref04_Words_fl) (annOf flotsamref04_Words_es) ⟨8, 47, 0, 0, flotsamref04_Words_L0⟩ := aeok_of 9223372036854775808 Go.Proofs.Tryd.func47 (by kernel_rfl) flotsamref04_Words_den0 (by kernel_rfl)
theorem flotsamref04_Words_sem : SemOf Go.Proofs.Tryd.prog 47 flotsamref04_Words_sm :=
  semMk teOk (sl := flotsamref04_Words_S) (all_nil) (fl := flotsamref04_Words_fl) (all_nil) (es := flotsamref04_Words_es) Go.Proofs.Tryd.func47 (by kernel_rfl) rfl (all_cons flotsamref04_Words_ok0 (all_nil)) rfl flotsamref04_Words_den

/-! ### flotsam/flotsamref03.turned -/
def flotsamref03_turned_s0r (v0 : Int) (v1 : Int) (v2 : Bool) (v8 : Int) (c16 : List Bool) : Option (SRes (.cons (.int .u32) (.cons cI (.cons .bool (.cons cI (.cons (.arr 32 .bool) .nil))))) (.cons cI (.cons .bool (.cons (.arr 32 .bool) .nil))) .nil) :=
  bif decide (v8 < 32) then
    (flotsamref03_Has (v0, v8, ())).bind fun y1 =>
    bif decide (0 ≤ v8) then
      bif decide (v8 < 32) then
        some (.next (v0, v1, v2, wi64 (v8 + 1), c16.set v8.toNat y1.1, ()))
      else none
    else none
  else
  some (.fin (.out (v1, v2, c16, ())))
def flotsamref03_turned_s0 (x : Int × Int × Bool × Int × (List Bool) × Unit) : Option (SRes (.cons (.int .u32) (.cons cI (.cons .bool (.cons cI (.cons (.arr 32 .bool) .nil))))) (.cons cI (.cons .bool (.cons (.arr 32 .bool) .nil))) .nil) := flotsamref03_turned_s0r x.1 x.2.1 x.2.2.1 x.2.2.2.1 x.2.2.2.2.1
def flotsamref03_turned_l0 (x : Int × Int × Bool × Int × (List Bool) × Unit) : Option (LRes (.cons cI (.cons .bool (.cons (.arr 32 .bool) .nil))) .nil) := iterL (h := (.cons (.int .u32) (.cons cI (.cons .bool (.cons cI (.cons (.arr 32 .bool) .nil)))))) (o := (.cons cI (.cons .bool (.cons (.arr 32 .bool) .nil)))) (r := .nil) flotsamref03_turned_s0 9223372036854775808 x
def flotsamref03_turned_r (a0 : Int) (a1 : Int) (a2 : Bool) : Option (Int × Unit) :=
  (flotsamref03_turned_l0 (a0, a1, a2, 0, List.replicate 32 false, ())).bind fun s2 => match s2 with
  | .out s2 =>
    bif decide (s2.1 ≥ 0) then
      bif decide (s2.1 < 32) then
        bif decide (0 ≤ s2.1) then
          bif decide (s2.1 < 32) then
            (flotsamref03_Of (s2.2.2.1.set s2.1.toNat s2.2.1, ())).bind fun y3 =>
            some (y3.1, ())
          else none
        else none
      else
      (flotsamref03_Of (s2.2.2.1, ())).bind fun y4 =>
      some (y4.1, ())
    else
    (flotsamref03_Of (s2.2.2.1, ())).bind fun y5 =>
    some (y5.1, ())
  | .ret s2 =>
    none
def flotsamref03_turned (x : Int × Int × Bool × Unit) : Option (Int × Unit) := flotsamref03_turned_r x.1 x.2.1 x.2.2.1
noncomputable def flotsamref03_turned_sm : Sum := ⟨(.cons (.int .u32) (.cons cI (.cons .bool .nil))), (.cons (.d (.int .u32)) .nil), flotsamref03_turned⟩
noncomputable def flotsamref03_turned_L0 : LoopSum := { hc := ⟨[], [0, 1, 2, 7, 8], [], [], [16], [], 48⟩, h := ⟨[(0, (.d (.int .u32))), (1, (.d cI)), (2, (.d .bool)), (7, (.pvar 16 [])), (8, (.d cI))], [(16, (.d (.arr 32 .bool)))], [], 48⟩, xid := 0, oc := ⟨[], [1, 2, 7], [], [], [16], [], 48⟩, o := ⟨[(1, (.d cI)), (2, (.d .bool)), (7, (.pvar 16 []))], [(16, (.d (.arr 32 .bool)))], [], 48⟩, rc := ⟨[], [], [], [], [48], [], 48⟩, r := ⟨[], [], [], 48⟩, F := flotsamref03_turned_l0 }
noncomputable def flotsamref03_turned_S : List (Nat × Sum) := [(49, flotsamref03_Has_sm), (86, flotsamref03_Of_sm)]
noncomputable def flotsamref03_turned_fl : List (Nat × Func) := []
noncomputable def flotsamref03_turned_es : List AE := [⟨8, 94, 0, 0, flotsamref03_turned_L0⟩]
theorem flotsamref03_turned_den0 : (fun x => denStep TEv (look1 flotsamref03_turned_S) (look1 flotsamref03_turned_fl) (annOf flotsamref03_turned_es) 8 94 Go.Proofs.Tryd.f94.ntmps 0 (cat (bodyOf Go.Proofs.Tryd.f94) [true, true, false, true, false, false]) flotsamref03_turned_L0 x) = flotsamref03_turned_s0 := by kernel_rfl
theorem flotsamref03_turned_den : (fun x => denFun TEv (look1 flotsamref03_turned_S) (look1 flotsamref03_turned_fl) (annOf flotsamref03_turned_es) 8 94 Go.Proofs.Tryd.f94 flotsamref03_turned_sm.a flotsamref03_turned_sm.r x) = flotsamref03_turned_sm.F := by kernel_rfl
theorem flotsamref03_turned_ok0 : AEok Go.Proofs.Tryd.prog TEv (look1 flotsamref03_turned_S) (look1 flotsamref03_turned_fl) (annOf flotsamref03_turned_es) ⟨8, 94, 0, 0, flotsamref03_turned_L0⟩ := aeok_of 9223372036854775808 Go.Proofs.Tryd.func94 (by kernel_rfl) flotsamref03_turned_den0 (by kernel_rfl)
theorem flotsamref03_turned_sem : SemOf Go.Proofs.Tryd.prog 94 flotsamref03_turned_sm :=
  semMk teOk (sl := flotsamref03_turned_S) (all_cons flotsamref03_Has_sem (all_cons flotsamref03_Of_sem all_nil)) (fl := flotsamref03_turned_fl) (all_nil) (es := flotsamref03_turned_es) Go.Proofs.Tryd.func94 (by kernel_rfl) rfl (all_cons flotsamref03_turned_ok0 (all_nil)) rfl flotsamref03_turned_den
end Go.Proofs.YtebdioogklmeaaaDoor.Den
