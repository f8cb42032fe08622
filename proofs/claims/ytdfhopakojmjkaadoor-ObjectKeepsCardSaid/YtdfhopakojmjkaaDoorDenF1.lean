/- What functions come to. Printed by a program of this session. -/
import Derived.Test.YtdfhopakojmjkaaDoorDenF0
namespace Go.Proofs.YtdfhopakojmjkaaDoor.Den
open Go
set_option maxRecDepth 100000
set_option linter.unusedVariables false
/-! ### flotsam/flotsamref03.Whole -/
def flotsamref03_Whole_s0r (v0 : Int) (v4 : Int) (c16 : List Bool) : Option (SRes (.cons cI (.cons cI (.cons (.arr 32 .bool) .nil))) (.cons (.arr 32 .bool) .nil) .nil) :=
  bif decide (v4 < 32) then
    bif decide (0 ≤ v4) then
      bif decide (v4 < 32) then
        some (.next (v0, wi64 (v4 + 1), c16.set v4.toNat (decide (v4 < v0)), ()))
      else none
    else none
  else
  some (.fin (.out (c16, ())))
def flotsamref03_Whole_s0 (x : Int × Int × (List Bool) × Unit) : Option (SRes (.cons cI (.cons cI (.cons (.arr 32 .bool) .nil))) (.cons (.arr 32 .bool) .nil) .nil) := flotsamref03_Whole_s0r x.1 x.2.1 x.2.2.1
def flotsamref03_Whole_l0 (x : Int × Int × (List Bool) × Unit) : Option (LRes (.cons (.arr 32 .bool) .nil) .nil) := iterL (h := (.cons cI (.cons cI (.cons (.arr 32 .bool) .nil)))) (o := (.cons (.arr 32 .bool) .nil)) (r := .nil) flotsamref03_Whole_s0 9223372036854775808 x
def flotsamref03_Whole_r (a0 : Int) : Option (Int × Unit) :=
  (flotsamref03_Whole_l0 (a0, 0, List.replicate 32 false, ())).bind fun s1 => match s1 with
  | .out s1 =>
    (flotsamref03_Of (s1.1, ())).bind fun y2 =>
    some (y2.1, ())
  | .ret s1 =>
    none
def flotsamref03_Whole (x : Int × Unit) : Option (Int × Unit) := flotsamref03_Whole_r x.1
noncomputable def flotsamref03_Whole_sm : Sum := ⟨(.cons cI .nil), (.cons (.d (.int .u32)) .nil), flotsamref03_Whole⟩
noncomputable def flotsamref03_Whole_L0 : LoopSum := { hc := ⟨[], [0, 3, 4], [], [], [16], [], 48⟩, h := ⟨[(0, (.d cI)), (3, (.pvar 16 [])), (4, (.d cI))], [(16, (.d (.arr 32 .bool)))], [], 48⟩, xid := 0, oc := ⟨[], [3], [], [], [16], [], 48⟩, o := ⟨[(3, (.pvar 16 []))], [(16, (.d (.arr 32 .bool)))], [], 48⟩, rc := ⟨[], [], [], [], [48], [], 48⟩, r := ⟨[], [], [], 48⟩, F := flotsamref03_Whole_l0 }
noncomputable def flotsamref03_Whole_S : List (Nat × Sum) := [(154, flotsamref03_Of_sm)]
noncomputable def flotsamref03_Whole_fl : List (Nat × Func) := []
noncomputable def flotsamref03_Whole_es : List AE := [⟨8, 108, 0, 0, flotsamref03_Whole_L0⟩]
theorem flotsamref03_Whole_den0 : (fun x => denStep TEv (look1 flotsamref03_Whole_S) (look1 flotsamref03_Whole_fl) (annOf flotsamref03_Whole_es) 8 108 Go.Proofs.Tryd.f108.ntmps 0 (cat (bodyOf Go.Proofs.Tryd.f108) [true, true, false, true, false, false]) flotsamref03_Whole_L0 x) = flotsamref03_Whole_s0 := by kernel_rfl
theorem flotsamref03_Whole_den : (fun x => denFun TEv (look1 flotsamref03_Whole_S) (look1 flotsamref03_Whole_fl) (annOf flotsamref03_Whole_es) 8 108 Go.Proofs.Tryd.f108 flotsamref03_Whole_sm.a flotsamref03_Whole_sm.r x) = flotsamref03_Whole_sm.F := by kernel_rfl
theorem flotsamref03_Whole_ok0 : AEok Go.Proofs.Tryd.prog TEv (look1 flotsamref03_Whole_S) (look1 flotsamref03_Whole_fl) (annOf flotsamref03_Whole_es) ⟨8, 108, 0, 0, flotsamref03_Whole_L0⟩ := aeok_of 9223372036854775808 Go.Proofs.Tryd.func108 (by kernel_rfl) flotsamref03_Whole_den0 (by kernel_rfl)
theorem flotsamref03_Whole_sem : SemOf Go.Proofs.Tryd.prog 108 flotsamref03_Whole_sm :=
  semMk teOk (sl := flotsamref03_Whole_S) (all_cons flotsamref03_Of_sem all_nil) (fl := flotsamref03_Whole_fl) (all_nil) (es := flotsamref03_Whole_es) Go.Proofs.Tryd.func108 (by kernel_rfl) rfl (rng_none (by kernel_rfl) (by kernel_rfl)) (all_cons flotsamref03_Whole_ok0 (all_nil)) rfl flotsamref03_Whole_den

/-! ### flotsam/flotsamref07.Open -/
def flotsamref07_Open_r (a0 : Heap) (a1 : Int) (a2 : Int) : Option (Heap × Bool × Unit) :=
  bif decide (a1 < 0) then
    some (a0, false, ())
  else
  bif decide (a1 ≥ (a0.2.1.length : Int)) then
    some (a0, false, ())
  else
  bif decide (a2 < 0) then
    some (a0, false, ())
  else
  bif decide (a2 > 3) then
    some (a0, false, ())
  else
  bif decide (0 ≤ a1) then
    bif decide (a1 < (a0.2.1.length : Int)) then
      bif (a0.2.1.getD a1.toNat (0, 0, 0, ())).1 != 0 then
        some (a0, false, ())
      else
      (flotsamref04_Blocks (a2, ())).bind fun y1 =>
      (flotsamref03_Whole (y1.1, ())).bind fun y2 =>
      (flotsamref07_with (a0, a1, (1, a2, y2.1, ()), ())).bind fun y3 =>
      some ((y3.1.1, y3.1.2.1, y3.1.2.2), true, ())
    else none
  else none
def flotsamref07_Open (x : Heap × Val) : Option (Heap × Bool × Unit) := flotsamref07_Open_r x.1 x.2.1 x.2.2.1
noncomputable def flotsamref07_Open_sm : Sum := ⟨(.cons cHeap cVal), (.cons (.d cHeap) (.cons (.d .bool) .nil)), flotsamref07_Open⟩
noncomputable def flotsamref07_Open_S : List (Nat × Sum) := [(99, flotsamref04_Blocks_sm), (107, flotsamref07_with_sm), (108, flotsamref03_Whole_sm)]
noncomputable def flotsamref07_Open_fl : List (Nat × Func) := []
noncomputable def flotsamref07_Open_es : List AE := []
theorem flotsamref07_Open_den : (fun x => denFun TEv (look1 flotsamref07_Open_S) (look1 flotsamref07_Open_fl) (annOf flotsamref07_Open_es) 8 52 Go.Proofs.Tryd.f52 flotsamref07_Open_sm.a flotsamref07_Open_sm.r x) = flotsamref07_Open_sm.F := by kernel_rfl
theorem flotsamref07_Open_sem : SemOf Go.Proofs.Tryd.prog 52 flotsamref07_Open_sm :=
  semMk teOk (sl := flotsamref07_Open_S) (all_cons flotsamref04_Blocks_sem (all_cons flotsamref07_with_sem (all_cons flotsamref03_Whole_sem all_nil))) (fl := flotsamref07_Open_fl) (all_nil) (es := flotsamref07_Open_es) Go.Proofs.Tryd.func52 (by kernel_rfl) rfl (rng_none (by kernel_rfl) (by kernel_rfl)) (all_nil) rfl flotsamref07_Open_den

/-! ### flotsam/flotsamref03.Has -/
def flotsamref03_Has_s0r (v0 : Int) (v1 : Int) (v5 : Int) : Option (SRes (.cons (.int .u32) cVal) (.cons (.int .u32) .nil) .nil) :=
  bif decide (v5 < v1) then
    some (.next (wu32 (v0.tdiv 2), v1, wi64 (v5 + 1), ()))
  else
  some (.fin (.out (v0, ())))
def flotsamref03_Has_s0 (x : Int × Val) : Option (SRes (.cons (.int .u32) cVal) (.cons (.int .u32) .nil) .nil) := flotsamref03_Has_s0r x.1 x.2.1 x.2.2.1
def flotsamref03_Has_l0 (x : Int × Val) : Option (LRes (.cons (.int .u32) .nil) .nil) := iterL (h := (.cons (.int .u32) cVal)) (o := (.cons (.int .u32) .nil)) (r := .nil) flotsamref03_Has_s0 9223372036854775808 x
def flotsamref03_Has_r (a0 : Int) (a1 : Int) : Option (Bool × Unit) :=
  bif decide (a1 < 0) then
    some (false, ())
  else
  bif decide (a1 > 31) then
    some (false, ())
  else
  (flotsamref03_Has_l0 (a0, a1, 0, ())).bind fun s1 => match s1 with
  | .out s1 =>
    some ((s1.1.tmod 2) == 1, ())
  | .ret s1 =>
    none
def flotsamref03_Has (x : Int × Int × Unit) : Option (Bool × Unit) := flotsamref03_Has_r x.1 x.2.1
noncomputable def flotsamref03_Has_sm : Sum := ⟨(.cons (.int .u32) (.cons cI .nil)), (.cons (.d .bool) .nil), flotsamref03_Has⟩
noncomputable def flotsamref03_Has_L0 : LoopSum := { hc := ⟨[], [0, 1, 5], [], [], [], [], 128⟩, h := ⟨[(0, (.d (.int .u32))), (1, (.d cI)), (5, (.d cI))], [], [], 128⟩, xid := 0, oc := ⟨[], [0], [], [], [], [], 128⟩, o := ⟨[(0, (.d (.int .u32)))], [], [], 128⟩, rc := ⟨[], [], [], [], [128], [], 128⟩, r := ⟨[], [], [], 128⟩, F := flotsamref03_Has_l0 }
noncomputable def flotsamref03_Has_S : List (Nat × Sum) := []
noncomputable def flotsamref03_Has_fl : List (Nat × Func) := []
noncomputable def flotsamref03_Has_es : List AE := [⟨8, 137, 0, 0, flotsamref03_Has_L0⟩]
theorem flotsamref03_Has_den0 : (fun x => denStep TEv (look1 flotsamref03_Has_S) (look1 flotsamref03_Has_fl) (annOf flotsamref03_Has_es) 8 137 Go.Proofs.Tryd.f137.ntmps 0 (cat (bodyOf Go.Proofs.Tryd.f137) [true, true, false, true, false, false]) flotsamref03_Has_L0 x) = flotsamref03_Has_s0 := by kernel_rfl
theorem flotsamref03_Has_den : (fun x => denFun TEv (look1 flotsamref03_Has_S) (look1 flotsamref03_Has_fl) (annOf flotsamref03_Has_es) 8 137 Go.Proofs.Tryd.f137 flotsamref03_Has_sm.a flotsamref03_Has_sm.r x) = flotsamref03_Has_sm.F := by kernel_rfl
theorem flotsamref03_Has_ok0 : AEok Go.Proofs.Tryd.prog TEv (look1 flotsamref03_Has_S) (look1 flotsamref03_Has_fl) (annOf flotsamref03_Has_es) ⟨8, 137, 0, 0, flotsamref03_Has_L0⟩ := aeok_of 9223372036854775808 Go.Proofs.Tryd.func137 (by kernel_rfl) flotsamref03_Has_den0 (by kernel_rfl)
theorem flotsamref03_Has_sem : SemOf Go.Proofs.Tryd.prog 137 flotsamref03_Has_sm :=
  semMk teOk (sl := flotsamref03_Has_S) (all_nil) (fl := flotsamref03_Has_fl) (all_nil) (es := flotsamref03_Has_es) Go.Proofs.Tryd.func137 (by kernel_rfl) rfl (rng_none (by kernel_rfl) (by kernel_rfl)) (all_cons flotsamref03_Has_ok0 (all_nil)) rfl flotsamref03_Has_den

/-! ### flotsam/flotsamref03.Count -/
def flotsamref03_Count_s0r (v0 : Int) (v3 : Int) (v4 : Int) : Option (SRes (.cons (.int .u32) cVal) (.cons cI .nil) .nil) :=
  bif decide (v4 < 32) then
    (flotsamref03_Has (v0, v4, ())).bind fun y1 =>
    bif y1.1 then
      some (.next (v0, wi64 (v3 + 1), wi64 (v4 + 1), ()))
    else
    some (.next (v0, v3, wi64 (v4 + 1), ()))
  else
  some (.fin (.out (v3, ())))
def flotsamref03_Count_s0 (x : Int × Val) : Option (SRes (.cons (.int .u32) cVal) (.cons cI .nil) .nil) := flotsamref03_Count_s0r x.1 x.2.1 x.2.2.1
def flotsamref03_Count_l0 (x : Int × Val) : Option (LRes (.cons cI .nil) .nil) := iterL (h := (.cons (.int .u32) cVal)) (o := (.cons cI .nil)) (r := .nil) flotsamref03_Count_s0 9223372036854775808 x
def flotsamref03_Count_r (a0 : Int) : Option (Int × Unit) :=
  (flotsamref03_Count_l0 (a0, 0, 0, ())).bind fun s2 => match s2 with
  | .out s2 =>
    some (s2.1, ())
  | .ret s2 =>
    none
def flotsamref03_Count (x : Int × Unit) : Option (Int × Unit) := flotsamref03_Count_r x.1
noncomputable def flotsamref03_Count_sm : Sum := ⟨(.cons (.int .u32) .nil), (.cons (.d cI) .nil), flotsamref03_Count⟩
noncomputable def flotsamref03_Count_L0 : LoopSum := { hc := ⟨[], [0, 3, 4], [], [], [], [], 48⟩, h := ⟨[(0, (.d (.int .u32))), (3, (.d cI)), (4, (.d cI))], [], [], 48⟩, xid := 0, oc := ⟨[], [3], [], [], [], [], 48⟩, o := ⟨[(3, (.d cI))], [], [], 48⟩, rc := ⟨[], [], [], [], [48], [], 48⟩, r := ⟨[], [], [], 48⟩, F := flotsamref03_Count_l0 }
noncomputable def flotsamref03_Count_S : List (Nat × Sum) := [(137, flotsamref03_Has_sm)]
noncomputable def flotsamref03_Count_fl : List (Nat × Func) := []
noncomputable def flotsamref03_Count_es : List AE := [⟨8, 153, 0, 0, flotsamref03_Count_L0⟩]
theorem flotsamref03_Count_den0 : (fun x => denStep TEv (look1 flotsamref03_Count_S) (look1 flotsamref03_Count_fl) (annOf flotsamref03_Count_es) 8 153 Go.Proofs.Tryd.f153.ntmps 0 (cat (bodyOf Go.Proofs.Tryd.f153) [true, true, false, true, false, false]) flotsamref03_Count_L0 x) = flotsamref03_Count_s0 := by kernel_rfl
theorem flotsamref03_Count_den : (fun x => denFun TEv (look1 flotsamref03_Count_S) (look1 flotsamref03_Count_fl) (annOf flotsamref03_Count_es) 8 153 Go.Proofs.Tryd.f153 flotsamref03_Count_sm.a flotsamref03_Count_sm.r x) = flotsamref03_Count_sm.F := by kernel_rfl
theorem flotsamref03_Count_ok0 : AEok Go.Proofs.Tryd.prog TEv (look1 flotsamref03_Count_S) (look1 flotsamref03_Count_fl) (annOf flotsamref03_Count_es) ⟨8, 153, 0, 0, flotsamref03_Count_L0⟩ := aeok_of 9223372036854775808 Go.Proofs.Tryd.func153 (by kernel_rfl) flotsamref03_Count_den0 (by kernel_rfl)
theorem flotsamref03_Count_sem : SemOf Go.Proofs.Tryd.prog 153 flotsamref03_Count_sm :=
  semMk teOk (sl := flotsamref03_Count_S) (all_cons flotsamref03_Has_sem all_nil) (fl := flotsamref03_Count_fl) (all_nil) (es := flotsamref03_Count_es) Go.Proofs.Tryd.func153 (by kernel_rfl) rfl (rng_none (by kernel_rfl) (by kernel_rfl)) (all_cons flotsamref03_Count_ok0 (all_nil)) rfl flotsamref03_Count_den

/-! ### flotsam/flotsamref06.Free -/
def flotsamref06_Free_r (a0 : Span) : Option (Int × Unit) :=
  (flotsamref03_Count (a0.2.2.1, ())).bind fun y1 =>
  some (y1.1, ())
def flotsamref06_Free (x : Span × Unit) : Option (Int × Unit) := flotsamref06_Free_r x.1
noncomputable def flotsamref06_Free_sm : Sum := ⟨(.cons cSpan .nil), (.cons (.d cI) .nil), flotsamref06_Free⟩
noncomputable def flotsamref06_Free_S : List (Nat × Sum) := [(153, flotsamref03_Count_sm)]
noncomputable def flotsamref06_Free_fl : List (Nat × Func) := []
noncomputable def flotsamref06_Free_es : List AE := []
theorem flotsamref06_Free_den : (fun x => denFun TEv (look1 flotsamref06_Free_S) (look1 flotsamref06_Free_fl) (annOf flotsamref06_Free_es) 8 103 Go.Proofs.Tryd.f103 flotsamref06_Free_sm.a flotsamref06_Free_sm.r x) = flotsamref06_Free_sm.F := by kernel_rfl
theorem flotsamref06_Free_sem : SemOf Go.Proofs.Tryd.prog 103 flotsamref06_Free_sm :=
  semMk teOk (sl := flotsamref06_Free_S) (all_cons flotsamref03_Count_sem all_nil) (fl := flotsamref06_Free_fl) (all_nil) (es := flotsamref06_Free_es) Go.Proofs.Tryd.func103 (by kernel_rfl) rfl (rng_none (by kernel_rfl) (by kernel_rfl)) (all_nil) rfl flotsamref06_Free_den

/-! ### flotsam/flotsamref07.Close -/
def flotsamref07_Close_r (a0 : Heap) (a1 : Int) : Option (Heap × Bool × Unit) :=
  bif decide (a1 < 0) then
    some (a0, false, ())
  else
  bif decide (a1 ≥ (a0.2.1.length : Int)) then
    some (a0, false, ())
  else
  bif decide (0 ≤ a1) then
    bif decide (a1 < (a0.2.1.length : Int)) then
      bif (a0.2.1.getD a1.toNat (0, 0, 0, ())).1 == 0 then
        some (a0, false, ())
      else
      bif decide (0 ≤ a1) then
        bif decide (a1 < (a0.2.1.length : Int)) then
          (flotsamref06_Free (a0.2.1.getD a1.toNat (0, 0, 0, ()), ())).bind fun y1 =>
          bif decide (0 ≤ a1) then
            bif decide (a1 < (a0.2.1.length : Int)) then
              (flotsamref04_Blocks ((a0.2.1.getD a1.toNat (0, 0, 0, ())).2.1, ())).bind fun y2 =>
              bif y1.1 != y2.1 then
                some (a0, false, ())
              else
              (flotsamref07_with (a0, a1, (0, 0, 0, ()), ())).bind fun y3 =>
              some ((y3.1.1, y3.1.2.1, y3.1.2.2), true, ())
            else none
          else none
        else none
      else none
    else none
  else none
def flotsamref07_Close (x : Heap × Int × Unit) : Option (Heap × Bool × Unit) := flotsamref07_Close_r x.1 x.2.1
noncomputable def flotsamref07_Close_sm : Sum := ⟨(.cons cHeap (.cons cI .nil)), (.cons (.d cHeap) (.cons (.d .bool) .nil)), flotsamref07_Close⟩
noncomputable def flotsamref07_Close_S : List (Nat × Sum) := [(99, flotsamref04_Blocks_sm), (103, flotsamref06_Free_sm), (107, flotsamref07_with_sm)]
noncomputable def flotsamref07_Close_fl : List (Nat × Func) := []
noncomputable def flotsamref07_Close_es : List AE := []
theorem flotsamref07_Close_den : (fun x => denFun TEv (look1 flotsamref07_Close_S) (look1 flotsamref07_Close_fl) (annOf flotsamref07_Close_es) 8 54 Go.Proofs.Tryd.f54 flotsamref07_Close_sm.a flotsamref07_Close_sm.r x) = flotsamref07_Close_sm.F := by kernel_rfl
theorem flotsamref07_Close_sem : SemOf Go.Proofs.Tryd.prog 54 flotsamref07_Close_sm :=
  semMk teOk (sl := flotsamref07_Close_S) (all_cons flotsamref04_Blocks_sem (all_cons flotsamref06_Free_sem (all_cons flotsamref07_with_sem all_nil))) (fl := flotsamref07_Close_fl) (all_nil) (es := flotsamref07_Close_es) Go.Proofs.Tryd.func54 (by kernel_rfl) rfl (rng_none (by kernel_rfl) (by kernel_rfl)) (all_nil) rfl flotsamref07_Close_den

/-! ### flotsam/flotsamref04.Words -/
def flotsamref04_Words_s0r (v0 : Int) (v3 : Int) (v4 : Int) : Option (SRes (.cons cI cVal) (.cons cI .nil) .nil) :=
  bif decide (v4 < v0) then
    some (.next (v0, wi64 (2 * v3), wi64 (v4 + 1), ()))
  else
  some (.fin (.out (v3, ())))
def flotsamref04_Words_s0 (x : Int × Val) : Option (SRes (.cons cI cVal) (.cons cI .nil) .nil) := flotsamref04_Words_s0r x.1 x.2.1 x.2.2.1
def flotsamref04_Words_l0 (x : Int × Val) : Option (LRes (.cons cI .nil) .nil) := iterL (h := (.cons cI cVal)) (o := (.cons cI .nil)) (r := .nil) flotsamref04_Words_s0 9223372036854775808 x
def flotsamref04_Words_r (a0 : Int) : Option (Int × Unit) :=
  bif decide (a0 < 0) then
    some (0, ())
  else
  bif decide (a0 > 3) then
    some (0, ())
  else
  (flotsamref04_Words_l0 (a0, 2, 0, ())).bind fun s1 => match s1 with
  | .out s1 =>
    some (s1.1, ())
  | .ret s1 =>
    none
def flotsamref04_Words (x : Int × Unit) : Option (Int × Unit) := flotsamref04_Words_r x.1
noncomputable def flotsamref04_Words_sm : Sum := ⟨(.cons cI .nil), (.cons (.d cI) .nil), flotsamref04_Words⟩
noncomputable def flotsamref04_Words_L0 : LoopSum := { hc := ⟨[], [0, 3, 4], [], [], [], [], 144⟩, h := ⟨[(0, (.d cI)), (3, (.d cI)), (4, (.d cI))], [], [], 144⟩, xid := 0, oc := ⟨[], [3], [], [], [], [], 144⟩, o := ⟨[(3, (.d cI))], [], [], 144⟩, rc := ⟨[], [], [], [], [144], [], 144⟩, r := ⟨[], [], [], 144⟩, F := flotsamref04_Words_l0 }
noncomputable def flotsamref04_Words_S : List (Nat × Sum) := []
noncomputable def flotsamref04_Words_fl : List (Nat × Func) := []
noncomputable def flotsamref04_Words_es : List AE := [⟨8, 100, 0, 0, flotsamref04_Words_L0⟩]
theorem flotsamref04_Words_den0 : (fun x => denStep TEv (look1 flotsamref04_Words_S) (look1 flotsamref04_Words_fl) (annOf flotsamref04_Words_es) 8 100 Go.Proofs.Tryd.f100.ntmps 0 (cat (bodyOf Go.Proofs.Tryd.f100) [true, true, true, false, true, false, false]) flotsamref04_Words_L0 x) = flotsamref04_Words_s0 := by kernel_rfl
theorem flotsamref04_Words_den : (fun x => denFun TEv (look1 flotsamref04_Words_S) (look1 flotsamref04_Words_fl) (annOf flotsamref04_Words_es) 8 100 Go.Proofs.Tryd.f100 flotsamref04_Words_sm.a flotsamref04_Words_sm.r x) = flotsamref04_Words_sm.F := by kernel_rfl
theorem flotsamref04_Words_ok0 : AEok Go.Proofs.Tryd.prog TEv (look1 flotsamref04_Words_S) (look1 flotsamref04_Words_fl) (annOf flotsamref04_Words_es) ⟨8, 100, 0, 0, flotsamref04_Words_L0⟩ := aeok_of 9223372036854775808 Go.Proofs.Tryd.func100 (by kernel_rfl) flotsamref04_Words_den0 (by kernel_rfl)
theorem flotsamref04_Words_sem : SemOf Go.Proofs.Tryd.prog 100 flotsamref04_Words_sm :=
  semMk teOk (sl := flotsamref04_Words_S) (all_nil) (fl := flotsamref04_Words_fl) (all_nil) (es := flotsamref04_Words_es) Go.Proofs.Tryd.func100 (by kernel_rfl) rfl (rng_none (by kernel_rfl) (by kernel_rfl)) (all_cons flotsamref04_Words_ok0 (all_nil)) rfl flotsamref04_Words_den

/-! ### flotsam/flotsamref07.Find -/
def flotsamref07_Find_s0r (v1 : Int) (v7 : Int) (v8 : Int) (c0 : Heap) : Option (SRes (.cons cI (.cons cI (.cons cI (.cons cHeap .nil)))) (.cons cI (.cons cI (.cons cHeap .nil))) (.cons cI (.cons cI (.cons .bool .nil)))) :=
  bif decide (0 ≤ v7) then
    bif decide (v7 < (c0.2.1.length : Int)) then
      (flotsamref04_Blocks ((c0.2.1.getD v7.toNat (0, 0, 0, ())).2.1, ())).bind fun y1 =>
      bif decide (v8 < y1.1) then
        bif decide (0 ≤ v7) then
          bif decide (v7 < (c0.2.1.length : Int)) then
            (flotsamref04_Words ((c0.2.1.getD v7.toNat (0, 0, 0, ())).2.1, ())).bind fun y2 =>
            bif (wi64 ((wi64 (32 * v7)) + (wi64 (v8 * y2.1)))) == v1 then
              some (.fin (.ret (v7, v8, true, ())))
            else
            some (.next (v1, v7, wi64 (v8 + 1), c0, ()))
          else none
        else none
      else
      some (.fin (.out (v1, v7, c0, ())))
    else none
  else none
def flotsamref07_Find_s0 (x : Int × Int × Int × Heap × Unit) : Option (SRes (.cons cI (.cons cI (.cons cI (.cons cHeap .nil)))) (.cons cI (.cons cI (.cons cHeap .nil))) (.cons cI (.cons cI (.cons .bool .nil)))) := flotsamref07_Find_s0r x.1 x.2.1 x.2.2.1 x.2.2.2.1
def flotsamref07_Find_l0 (x : Int × Int × Int × Heap × Unit) : Option (LRes (.cons cI (.cons cI (.cons cHeap .nil))) (.cons cI (.cons cI (.cons .bool .nil)))) := iterL (h := (.cons cI (.cons cI (.cons cI (.cons cHeap .nil))))) (o := (.cons cI (.cons cI (.cons cHeap .nil)))) (r := (.cons cI (.cons cI (.cons .bool .nil)))) flotsamref07_Find_s0 9223372036854775808 x
def flotsamref07_Find_s1r (v1 : Int) (v7 : Int) (c0 : Heap) : Option (SRes (.cons cI (.cons cI (.cons cHeap .nil))) .nil (.cons cI (.cons cI (.cons .bool .nil)))) :=
  bif decide (v7 < (c0.2.1.length : Int)) then
    bif decide (0 ≤ v7) then
      bif decide (v7 < (c0.2.1.length : Int)) then
        bif (c0.2.1.getD v7.toNat (0, 0, 0, ())).1 == 0 then
          some (.next (v1, wi64 (v7 + 1), c0, ()))
        else
        (flotsamref07_Find_l0 (v1, v7, 0, c0, ())).bind fun s3 => match s3 with
        | .out s3 =>
          some (.next (s3.1, wi64 (s3.2.1 + 1), s3.2.2.1, ()))
        | .ret s3 =>
          some (.fin (.ret (s3.1, s3.2.1, s3.2.2.1, ())))
      else none
    else none
  else
  some (.fin (.out ()))
def flotsamref07_Find_s1 (x : Int × Int × Heap × Unit) : Option (SRes (.cons cI (.cons cI (.cons cHeap .nil))) .nil (.cons cI (.cons cI (.cons .bool .nil)))) := flotsamref07_Find_s1r x.1 x.2.1 x.2.2.1
def flotsamref07_Find_l1 (x : Int × Int × Heap × Unit) : Option (LRes .nil (.cons cI (.cons cI (.cons .bool .nil)))) := iterL (h := (.cons cI (.cons cI (.cons cHeap .nil)))) (o := .nil) (r := (.cons cI (.cons cI (.cons .bool .nil)))) flotsamref07_Find_s1 9223372036854775808 x
def flotsamref07_Find_r (a0 : Heap) (a1 : Int) : Option (Int × Int × Bool × Unit) :=
  (flotsamref07_Find_l1 (a1, 0, a0, ())).bind fun s4 => match s4 with
  | .out s4 =>
    some (0, 0, false, ())
  | .ret s4 =>
    some (s4.1, s4.2.1, s4.2.2.1, ())
def flotsamref07_Find (x : Heap × Int × Unit) : Option (Int × Int × Bool × Unit) := flotsamref07_Find_r x.1 x.2.1
noncomputable def flotsamref07_Find_sm : Sum := ⟨(.cons cHeap (.cons cI .nil)), (.cons (.d cI) (.cons (.d cI) (.cons (.d .bool) .nil))), flotsamref07_Find⟩
noncomputable def flotsamref07_Find_L0 : LoopSum := { hc := ⟨[], [1, 2, 7, 8], [], [], [0], [], 288⟩, h := ⟨[(1, (.d cI)), (2, (.pvar 0 [])), (7, (.d cI)), (8, (.d cI))], [(0, (.d cHeap))], [], 288⟩, xid := 2, oc := ⟨[], [1, 2, 7], [], [], [0], [], 288⟩, o := ⟨[(1, (.d cI)), (2, (.pvar 0 [])), (7, (.d cI))], [(0, (.d cHeap))], [], 288⟩, rc := ⟨[], [4, 5, 6], [], [], [], [], 288⟩, r := ⟨[(4, (.d cI)), (5, (.d cI)), (6, (.d .bool))], [], [], 288⟩, F := flotsamref07_Find_l0 }
noncomputable def flotsamref07_Find_L1 : LoopSum := { hc := ⟨[], [1, 2, 7], [], [], [0], [], 80⟩, h := ⟨[(1, (.d cI)), (2, (.pvar 0 [])), (7, (.d cI))], [(0, (.d cHeap))], [], 80⟩, xid := 0, oc := ⟨[], [], [], [], [], [], 80⟩, o := ⟨[], [], [], 80⟩, rc := ⟨[], [4, 5, 6], [], [], [], [], 80⟩, r := ⟨[(4, (.d cI)), (5, (.d cI)), (6, (.d .bool))], [], [], 80⟩, F := flotsamref07_Find_l1 }
noncomputable def flotsamref07_Find_S : List (Nat × Sum) := [(99, flotsamref04_Blocks_sm), (100, flotsamref04_Words_sm)]
noncomputable def flotsamref07_Find_fl : List (Nat × Func) := []
noncomputable def flotsamref07_Find_es : List AE := [⟨8, 48, 0, 2, flotsamref07_Find_L0⟩, ⟨8, 48, 0, 0, flotsamref07_Find_L1⟩]
theorem flotsamref07_Find_den0 : (fun x => denStep TEv (look1 flotsamref07_Find_S) (look1 flotsamref07_Find_fl) (annOf flotsamref07_Find_es) 8 48 Go.Proofs.Tryd.f48.ntmps 0 (cat (bodyOf Go.Proofs.Tryd.f48) [true, false, true, false, false, true, false, false, true, true, false, false]) flotsamref07_Find_L0 x) = flotsamref07_Find_s0 := by kernel_rfl
theorem flotsamref07_Find_den1 : (fun x => denStep TEv (look1 flotsamref07_Find_S) (look1 flotsamref07_Find_fl) (annOf flotsamref07_Find_es) 8 48 Go.Proofs.Tryd.f48.ntmps 0 (cat (bodyOf Go.Proofs.Tryd.f48) [true, false, true, false, false]) flotsamref07_Find_L1 x) = flotsamref07_Find_s1 := by kernel_rfl
theorem flotsamref07_Find_den : (fun x => denFun TEv (look1 flotsamref07_Find_S) (look1 flotsamref07_Find_fl) (annOf flotsamref07_Find_es) 8 48 Go.Proofs.Tryd.f48 flotsamref07_Find_sm.a flotsamref07_Find_sm.r x) = flotsamref07_Find_sm.F := by kernel_rfl
theorem flotsamref07_Find_ok0 : AEok Go.Proofs.Tryd.prog TEv (look1 flotsamref07_Find_S) (look1 flotsamref07_Find_fl) (annOf flotsamref07_Find_es) ⟨8, 48, 0, 2, flotsamref07_Find_L0⟩ := aeok_of 9223372036854775808 Go.Proofs.Tryd.func48 (by kernel_rfl) flotsamref07_Find_den0 (by kernel_rfl)
theorem flotsamref07_Find_ok1 : AEok Go.Proofs.Tryd.prog TEv (look1 flotsamref07_Find_S) (look1 flotsamref07_Find_fl) (annOf flotsamref07_Find_es) ⟨8, 48, 0, 0, flotsamref07_Find_L1⟩ := aeok_of 9223372036854775808 Go.Proofs.Tryd.func48 (by kernel_rfl) flotsamref07_Find_den1 (by kernel_rfl)
theorem flotsamref07_Find_sem : SemOf Go.Proofs.Tryd.prog 48 flotsamref07_Find_sm :=
  semMk teOk (sl := flotsamref07_Find_S) (all_cons flotsamref04_Blocks_sem (all_cons flotsamref04_Words_sem all_nil)) (fl := flotsamref07_Find_fl) (all_nil) (es := flotsamref07_Find_es) Go.Proofs.Tryd.func48 (by kernel_rfl) rfl (rng_none (by kernel_rfl) (by kernel_rfl)) (all_cons flotsamref07_Find_ok0 (all_cons flotsamref07_Find_ok1 (all_nil))) rfl flotsamref07_Find_den

/-! ### flotsam/flotsamref06.InUse -/
def flotsamref06_InUse_r (a0 : Span) : Option (Bool × Unit) :=
  bif a0.1 == 1 then
    some (true, ())
  else
  some (a0.1 == 2, ())
def flotsamref06_InUse (x : Span × Unit) : Option (Bool × Unit) := flotsamref06_InUse_r x.1
noncomputable def flotsamref06_InUse_sm : Sum := ⟨(.cons cSpan .nil), (.cons (.d .bool) .nil), flotsamref06_InUse⟩
noncomputable def flotsamref06_InUse_S : List (Nat × Sum) := []
noncomputable def flotsamref06_InUse_fl : List (Nat × Func) := []
noncomputable def flotsamref06_InUse_es : List AE := []
theorem flotsamref06_InUse_den : (fun x => denFun TEv (look1 flotsamref06_InUse_S) (look1 flotsamref06_InUse_fl) (annOf flotsamref06_InUse_es) 8 136 Go.Proofs.Tryd.f136 flotsamref06_InUse_sm.a flotsamref06_InUse_sm.r x) = flotsamref06_InUse_sm.F := by kernel_rfl
theorem flotsamref06_InUse_sem : SemOf Go.Proofs.Tryd.prog 136 flotsamref06_InUse_sm :=
  semMk teOk (sl := flotsamref06_InUse_S) (all_nil) (fl := flotsamref06_InUse_fl) (all_nil) (es := flotsamref06_InUse_es) Go.Proofs.Tryd.func136 (by kernel_rfl) rfl (rng_none (by kernel_rfl) (by kernel_rfl)) (all_nil) rfl flotsamref06_InUse_den

/-! ### flotsam/flotsamref03.turned -/
def flotsamref03_turned_s0r (v0 : Int) (v1 : Int) (v2 : Bool) (v8 : Int) (c16 : List Bool) : Option (SRes (.cons (.int .u32) (.cons cI (.cons .bool (.cons cI (.cons (.arr 32 .bool) .nil))))) (.cons cI (.cons .bool (.cons (.arr 32 .bool) .nil))) .nil) :=
  bif decide (v8 < 32) then
    (flotsamref03_Has (v0, v8, ())).bind fun y1 =>
    bif decide (0 ≤ v8) then
      bif decide (v8 < 32) then
        some (.next (v0, v1, v2, wi64 (v8 + 1), c16.set v8.toNat y1.1, ()))
      else none
    else none
  else
  some (.fin (.out (v1, v2, c16, ())))
def flotsamref03_turned_s0 (x : Int × Int × Bool × Int × (List Bool) × Unit) : Option (SRes (.cons (.int .u32) (.cons cI (.cons .bool (.cons cI (.cons (.arr 32 .bool) .nil))))) (.cons cI (.cons .bool (.cons (.arr 32 .bool) .nil))) .nil) := flotsamref03_turned_s0r x.1 x.2.1 x.2.2.1 x.2.2.2.1 x.2.2.2.2.1
def flotsamref03_turned_l0 (x : Int × Int × Bool × Int × (List Bool) × Unit) : Option (LRes (.cons cI (.cons .bool (.cons (.arr 32 .bool) .nil))) .nil) := iterL (h := (.cons (.int .u32) (.cons cI (.cons .bool (.cons cI (.cons (.arr 32 .bool) .nil)))))) (o := (.cons cI (.cons .bool (.cons (.arr 32 .bool) .nil)))) (r := .nil) flotsamref03_turned_s0 9223372036854775808 x
def flotsamref03_turned_r (a0 : Int) (a1 : Int) (a2 : Bool) : Option (Int × Unit) :=
  (flotsamref03_turned_l0 (a0, a1, a2, 0, List.replicate 32 false, ())).bind fun s2 => match s2 with
  | .out s2 =>
    bif decide (s2.1 ≥ 0) then
      bif decide (s2.1 < 32) then
        bif decide (0 ≤ s2.1) then
          bif decide (s2.1 < 32) then
            (flotsamref03_Of (s2.2.2.1.set s2.1.toNat s2.2.1, ())).bind fun y3 =>
            some (y3.1, ())
          else none
        else none
      else
      (flotsamref03_Of (s2.2.2.1, ())).bind fun y4 =>
      some (y4.1, ())
    else
    (flotsamref03_Of (s2.2.2.1, ())).bind fun y5 =>
    some (y5.1, ())
  | .ret s2 =>
    none
def flotsamref03_turned (x : Int × Int × Bool × Unit) : Option (Int × Unit) := flotsamref03_turned_r x.1 x.2.1 x.2.2.1
noncomputable def flotsamref03_turned_sm : Sum := ⟨(.cons (.int .u32) (.cons cI (.cons .bool .nil))), (.cons (.d (.int .u32)) .nil), flotsamref03_turned⟩
noncomputable def flotsamref03_turned_L0 : LoopSum := { hc := ⟨[], [0, 1, 2, 7, 8], [], [], [16], [], 48⟩, h := ⟨[(0, (.d (.int .u32))), (1, (.d cI)), (2, (.d .bool)), (7, (.pvar 16 [])), (8, (.d cI))], [(16, (.d (.arr 32 .bool)))], [], 48⟩, xid := 0, oc := ⟨[], [1, 2, 7], [], [], [16], [], 48⟩, o := ⟨[(1, (.d cI)), (2, (.d .bool)), (7, (.pvar 16 []))], [(16, (.d (.arr 32 .bool)))], [], 48⟩, rc := ⟨[], [], [], [], [48], [], 48⟩, r := ⟨[], [], [], 48⟩, F := flotsamref03_turned_l0 }
noncomputable def flotsamref03_turned_S : List (Nat × Sum) := [(137, flotsamref03_Has_sm), (154, flotsamref03_Of_sm)]
noncomputable def flotsamref03_turned_fl : List (Nat × Func) := []
noncomputable def flotsamref03_turned_es : List AE := [⟨8, 171, 0, 0, flotsamref03_turned_L0⟩]
theorem flotsamref03_turned_den0 : (fun x => denStep TEv (look1 flotsamref03_turned_S) (look1 flotsamref03_turned_fl) (annOf flotsamref03_turned_es) 8 171 Go.Proofs.Tryd.f171.ntmps 0 (cat (bodyOf Go.Proofs.Tryd.f171) [true, true, false, true, false, false]) flotsamref03_turned_L0 x) = flotsamref03_turned_s0 := by kernel_rfl
theorem flotsamref03_turned_den : (fun x => denFun TEv (look1 flotsamref03_turned_S) (look1 flotsamref03_turned_fl) (annOf flotsamref03_turned_es) 8 171 Go.Proofs.Tryd.f171 flotsamref03_turned_sm.a flotsamref03_turned_sm.r x) = flotsamref03_turned_sm.F := by kernel_rfl
theorem flotsamref03_turned_ok0 : AEok Go.Proofs.Tryd.prog TEv (look1 flotsamref03_turned_S) (look1 flotsamref03_turned_fl) (annOf flotsamref03_turned_es) ⟨8, 171, 0, 0, flotsamref03_turned_L0⟩ := aeok_of 9223372036854775808 Go.Proofs.Tryd.func171 (by kernel_rfl) flotsamref03_turned_den0 (by kernel_rfl)
theorem flotsamref03_turned_sem : SemOf Go.Proofs.Tryd.prog 171 flotsamref03_turned_sm :=
  semMk teOk (sl := flotsamref03_turned_S) (all_cons flotsamref03_Has_sem (all_cons flotsamref03_Of_sem all_nil)) (fl := flotsamref03_turned_fl) (all_nil) (es := flotsamref03_turned_es) Go.Proofs.Tryd.func171 (by kernel_rfl) rfl (rng_none (by kernel_rfl) (by kernel_rfl)) (all_cons flotsamref03_turned_ok0 (all_nil)) rfl flotsamref03_turned_den

/-! ### flotsam/flotsamref03.With -/
def flotsamref03_With_r (a0 : Int) (a1 : Int) : Option (Int × Unit) :=
  (flotsamref03_turned (a0, a1, true, ())).bind fun y1 =>
  some (y1.1, ())
def flotsamref03_With (x : Int × Int × Unit) : Option (Int × Unit) := flotsamref03_With_r x.1 x.2.1
noncomputable def flotsamref03_With_sm : Sum := ⟨(.cons (.int .u32) (.cons cI .nil)), (.cons (.d (.int .u32)) .nil), flotsamref03_With⟩
noncomputable def flotsamref03_With_S : List (Nat × Sum) := [(171, flotsamref03_turned_sm)]
noncomputable def flotsamref03_With_fl : List (Nat × Func) := []
noncomputable def flotsamref03_With_es : List AE := []
theorem flotsamref03_With_den : (fun x => denFun TEv (look1 flotsamref03_With_S) (look1 flotsamref03_With_fl) (annOf flotsamref03_With_es) 8 157 Go.Proofs.Tryd.f157 flotsamref03_With_sm.a flotsamref03_With_sm.r x) = flotsamref03_With_sm.F := by kernel_rfl
theorem flotsamref03_With_sem : SemOf Go.Proofs.Tryd.prog 157 flotsamref03_With_sm :=
  semMk teOk (sl := flotsamref03_With_S) (all_cons flotsamref03_turned_sem all_nil) (fl := flotsamref03_With_fl) (all_nil) (es := flotsamref03_With_es) Go.Proofs.Tryd.func157 (by kernel_rfl) rfl (rng_none (by kernel_rfl) (by kernel_rfl)) (all_nil) rfl flotsamref03_With_den

/-! ### flotsam/flotsamref06.Give -/
def flotsamref06_Give_r (a0 : Span) (a1 : Int) : Option (Span × Bool × Unit) :=
  (flotsamref06_InUse (a0, ())).bind fun y1 =>
  bif !y1.1 then
    some (a0, false, ())
  else
  bif decide (a1 < 0) then
    some (a0, false, ())
  else
  (flotsamref04_Blocks (a0.2.1, ())).bind fun y2 =>
  bif decide (a1 ≥ y2.1) then
    some (a0, false, ())
  else
  (flotsamref03_Has (a0.2.2.1, a1, ())).bind fun y3 =>
  bif y3.1 then
    some (a0, false, ())
  else
  (flotsamref03_With (a0.2.2.1, a1, ())).bind fun y4 =>
  some ((a0.1, a0.2.1, y4.1, a0.2.2.2), true, ())
def flotsamref06_Give (x : Span × Int × Unit) : Option (Span × Bool × Unit) := flotsamref06_Give_r x.1 x.2.1
noncomputable def flotsamref06_Give_sm : Sum := ⟨(.cons cSpan (.cons cI .nil)), (.cons (.d cSpan) (.cons (.d .bool) .nil)), flotsamref06_Give⟩
noncomputable def flotsamref06_Give_S : List (Nat × Sum) := [(99, flotsamref04_Blocks_sm), (136, flotsamref06_InUse_sm), (137, flotsamref03_Has_sm), (157, flotsamref03_With_sm)]
noncomputable def flotsamref06_Give_fl : List (Nat × Func) := []
noncomputable def flotsamref06_Give_es : List AE := []
theorem flotsamref06_Give_den : (fun x => denFun TEv (look1 flotsamref06_Give_S) (look1 flotsamref06_Give_fl) (annOf flotsamref06_Give_es) 8 113 Go.Proofs.Tryd.f113 flotsamref06_Give_sm.a flotsamref06_Give_sm.r x) = flotsamref06_Give_sm.F := by kernel_rfl
theorem flotsamref06_Give_sem : SemOf Go.Proofs.Tryd.prog 113 flotsamref06_Give_sm :=
  semMk teOk (sl := flotsamref06_Give_S) (all_cons flotsamref04_Blocks_sem (all_cons flotsamref06_InUse_sem (all_cons flotsamref03_Has_sem (all_cons flotsamref03_With_sem all_nil)))) (fl := flotsamref06_Give_fl) (all_nil) (es := flotsamref06_Give_es) Go.Proofs.Tryd.func113 (by kernel_rfl) rfl (rng_none (by kernel_rfl) (by kernel_rfl)) (all_nil) rfl flotsamref06_Give_den

/-! ### flotsam/flotsamref07.Free -/
def flotsamref07_Free_s0r (v1 : Int) (v12 : Int) (c16 : Bool × Unit) (c400 : Span) (c544 : Bool × Unit) (r528 : List Int) (r529 : List Span) : Option (SRes (.cons cI (.cons cI (.cons (.cons .bool .nil) (.cons cSpan (.cons (.cons .bool .nil) (.cons (.sl (.int .u64)) (.cons (.sl cSpan) .nil))))))) (.cons (.cons .bool .nil) (.cons (.cons .bool .nil) (.cons (.sl (.int .u64)) (.cons (.sl cSpan) .nil)))) .nil) :=
  (flotsamref04_Words (c400.2.1, ())).bind fun y4 =>
  bif decide (v12 < y4.1) then
    bif decide (0 ≤ (wi64 (v1 + v12))) then
      bif decide ((wi64 (v1 + v12)) < (r528.length : Int)) then
        some (.next (v1, wi64 (v12 + 1), c16, c400, c544, r528.set (wi64 (v1 + v12)).toNat 0, r529, ()))
      else none
    else none
  else
  some (.fin (.out (c16, c544, r528, r529, ())))
def flotsamref07_Free_s0 (x : Int × Int × (Bool × Unit) × Span × (Bool × Unit) × (List Int) × (List Span) × Unit) : Option (SRes (.cons cI (.cons cI (.cons (.cons .bool .nil) (.cons cSpan (.cons (.cons .bool .nil) (.cons (.sl (.int .u64)) (.cons (.sl cSpan) .nil))))))) (.cons (.cons .bool .nil) (.cons (.cons .bool .nil) (.cons (.sl (.int .u64)) (.cons (.sl cSpan) .nil)))) .nil) := flotsamref07_Free_s0r x.1 x.2.1 x.2.2.1 x.2.2.2.1 x.2.2.2.2.1 x.2.2.2.2.2.1 x.2.2.2.2.2.2.1
def flotsamref07_Free_l0 (x : Int × Int × (Bool × Unit) × Span × (Bool × Unit) × (List Int) × (List Span) × Unit) : Option (LRes (.cons (.cons .bool .nil) (.cons (.cons .bool .nil) (.cons (.sl (.int .u64)) (.cons (.sl cSpan) .nil)))) .nil) := iterL (h := (.cons cI (.cons cI (.cons (.cons .bool .nil) (.cons cSpan (.cons (.cons .bool .nil) (.cons (.sl (.int .u64)) (.cons (.sl cSpan) .nil)))))))) (o := (.cons (.cons .bool .nil) (.cons (.cons .bool .nil) (.cons (.sl (.int .u64)) (.cons (.sl cSpan) .nil))))) (r := .nil) flotsamref07_Free_s0 9223372036854775808 x
def flotsamref07_Free_r (a0 : Heap) (a1 : Int) : Option (Heap × Bool × Unit) :=
  (flotsamref07_Find (a0, a1, ())).bind fun y1 =>
  bif !y1.2.2.1 then
    some (a0, false, ())
  else
  bif decide (0 ≤ y1.1) then
    bif decide (y1.1 < (a0.2.1.length : Int)) then
      (flotsamref06_Give (a0.2.1.getD y1.1.toNat (0, 0, 0, ()), y1.2.1, ())).bind fun y2 =>
      bif !y2.2.1 then
        some (a0, false, ())
      else
      (flotsamref07_with (a0, y1.1, y2.1, ())).bind fun y3 =>
      (flotsamref07_Free_l0 (a1, 0, (false, ()), y2.1, y3.1.2.2, y3.1.1, y3.1.2.1, ())).bind fun s5 => match s5 with
      | .out s5 =>
        some ((s5.2.2.1, s5.2.2.2.1, s5.2.1), true, ())
      | .ret s5 =>
        none
    else none
  else none
def flotsamref07_Free (x : Heap × Int × Unit) : Option (Heap × Bool × Unit) := flotsamref07_Free_r x.1 x.2.1
noncomputable def flotsamref07_Free_sm : Sum := ⟨(.cons cHeap (.cons cI .nil)), (.cons (.d cHeap) (.cons (.d .bool) .nil)), flotsamref07_Free⟩
noncomputable def flotsamref07_Free_L0 : LoopSum := { hc := ⟨[], [1, 4, 9, 11, 12], [], [], [16, 400, 544], [528, 529], 592⟩, h := ⟨[(1, (.d cI)), (4, (.pvar 16 [])), (9, (.pvar 400 [])), (11, (.pvar 544 [])), (12, (.d cI))], [(16, (.cons .nilsl (.cons .nilsl (.d (.cons .bool .nil))))), (400, (.d cSpan)), (544, (.cons (.row 528) (.cons (.row 529) (.d (.cons .bool .nil)))))], [(528, (.int .u64), true), (529, cSpan, true)], 592⟩, xid := 0, oc := ⟨[], [4, 11], [], [], [16, 544], [528, 529], 592⟩, o := ⟨[(4, (.pvar 16 [])), (11, (.pvar 544 []))], [(16, (.cons .nilsl (.cons .nilsl (.d (.cons .bool .nil))))), (544, (.cons (.row 528) (.cons (.row 529) (.d (.cons .bool .nil)))))], [(528, (.int .u64), true), (529, cSpan, true)], 592⟩, rc := ⟨[], [], [], [], [592], [], 592⟩, r := ⟨[], [], [], 592⟩, F := flotsamref07_Free_l0 }
noncomputable def flotsamref07_Free_S : List (Nat × Sum) := [(48, flotsamref07_Find_sm), (100, flotsamref04_Words_sm), (107, flotsamref07_with_sm), (113, flotsamref06_Give_sm)]
noncomputable def flotsamref07_Free_fl : List (Nat × Func) := []
noncomputable def flotsamref07_Free_es : List AE := [⟨8, 56, 0, 0, flotsamref07_Free_L0⟩]
theorem flotsamref07_Free_den0 : (fun x => denStep TEv (look1 flotsamref07_Free_S) (look1 flotsamref07_Free_fl) (annOf flotsamref07_Free_es) 8 56 Go.Proofs.Tryd.f56.ntmps 0 (cat (bodyOf Go.Proofs.Tryd.f56) [true, true, true, true, true, true, false, true, false, false]) flotsamref07_Free_L0 x) = flotsamref07_Free_s0 := by kernel_rfl
theorem flotsamref07_Free_den : (fun x => denFun TEv (look1 flotsamref07_Free_S) (look1 flotsamref07_Free_fl) (annOf flotsamref07_Free_es) 8 56 Go.Proofs.Tryd.f56 flotsamref07_Free_sm.a flotsamref07_Free_sm.r x) = flotsamref07_Free_sm.F := by kernel_rfl
theorem flotsamref07_Free_ok0 : AEok Go.Proofs.Tryd.prog TEv (look1 flotsamref07_Free_S) (look1 flotsamref07_Free_fl) (annOf flotsamref07_Free_es) ⟨8, 56, 0, 0, flotsamref07_Free_L0⟩ := aeok_of 9223372036854775808 Go.Proofs.Tryd.func56 (by kernel_rfl) flotsamref07_Free_den0 (by kernel_rfl)
theorem flotsamref07_Free_sem : SemOf Go.Proofs.Tryd.prog 56 flotsamref07_Free_sm :=
  semMk teOk (sl := flotsamref07_Free_S) (all_cons flotsamref07_Find_sem (all_cons flotsamref04_Words_sem (all_cons flotsamref07_with_sem (all_cons flotsamref06_Give_sem all_nil)))) (fl := flotsamref07_Free_fl) (all_nil) (es := flotsamref07_Free_es) Go.Proofs.Tryd.func56 (by kernel_rfl) rfl (rng_none (by kernel_rfl) (by kernel_rfl)) (all_cons flotsamref07_Free_ok0 (all_nil)) rfl flotsamref07_Free_den

/-! ### flotsam/flotsamref02.Put -/
def flotsamref02_Put_r (a0 : Hdr) : Option (Int × Unit) :=
  bif !a0.1 then
    some (0, ())
  else
  bif a0.2.1 then
    some (wu64 (wi64 ((wi64 ((wi64 (128 + (wi64 (16 * a0.2.2.1)))) + a0.2.2.2.1)) + 64)), ())
  else
  some (wu64 (wi64 ((wi64 (128 + (wi64 (16 * a0.2.2.1)))) + a0.2.2.2.1)), ())
def flotsamref02_Put (x : Hdr × Unit) : Option (Int × Unit) := flotsamref02_Put_r x.1
noncomputable def flotsamref02_Put_sm : Sum := ⟨(.cons cHdr .nil), (.cons (.d (.int .u64)) .nil), flotsamref02_Put⟩
noncomputable def flotsamref02_Put_S : List (Nat × Sum) := []
noncomputable def flotsamref02_Put_fl : List (Nat × Func) := []
noncomputable def flotsamref02_Put_es : List AE := []
theorem flotsamref02_Put_den : (fun x => denFun TEv (look1 flotsamref02_Put_S) (look1 flotsamref02_Put_fl) (annOf flotsamref02_Put_es) 8 89 Go.Proofs.Tryd.f89 flotsamref02_Put_sm.a flotsamref02_Put_sm.r x) = flotsamref02_Put_sm.F := by kernel_rfl
theorem flotsamref02_Put_sem : SemOf Go.Proofs.Tryd.prog 89 flotsamref02_Put_sm :=
  semMk teOk (sl := flotsamref02_Put_S) (all_nil) (fl := flotsamref02_Put_fl) (all_nil) (es := flotsamref02_Put_es) Go.Proofs.Tryd.func89 (by kernel_rfl) rfl (rng_none (by kernel_rfl) (by kernel_rfl)) (all_nil) rfl flotsamref02_Put_den

/-! ### flotsam/flotsamref03.Without -/
def flotsamref03_Without_r (a0 : Int) (a1 : Int) : Option (Int × Unit) :=
  (flotsamref03_turned (a0, a1, false, ())).bind fun y1 =>
  some (y1.1, ())
def flotsamref03_Without (x : Int × Int × Unit) : Option (Int × Unit) := flotsamref03_Without_r x.1 x.2.1
noncomputable def flotsamref03_Without_sm : Sum := ⟨(.cons (.int .u32) (.cons cI .nil)), (.cons (.d (.int .u32)) .nil), flotsamref03_Without⟩
noncomputable def flotsamref03_Without_S : List (Nat × Sum) := [(171, flotsamref03_turned_sm)]
noncomputable def flotsamref03_Without_fl : List (Nat × Func) := []
noncomputable def flotsamref03_Without_es : List AE := []
theorem flotsamref03_Without_den : (fun x => denFun TEv (look1 flotsamref03_Without_S) (look1 flotsamref03_Without_fl) (annOf flotsamref03_Without_es) 8 160 Go.Proofs.Tryd.f160 flotsamref03_Without_sm.a flotsamref03_Without_sm.r x) = flotsamref03_Without_sm.F := by kernel_rfl
theorem flotsamref03_Without_sem : SemOf Go.Proofs.Tryd.prog 160 flotsamref03_Without_sm :=
  semMk teOk (sl := flotsamref03_Without_S) (all_cons flotsamref03_turned_sem all_nil) (fl := flotsamref03_Without_fl) (all_nil) (es := flotsamref03_Without_es) Go.Proofs.Tryd.func160 (by kernel_rfl) rfl (rng_none (by kernel_rfl) (by kernel_rfl)) (all_nil) rfl flotsamref03_Without_den
end Go.Proofs.YtdfhopakojmjkaaDoor.Den
