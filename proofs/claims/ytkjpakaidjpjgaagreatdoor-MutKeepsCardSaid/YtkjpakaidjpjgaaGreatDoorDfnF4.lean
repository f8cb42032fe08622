/- What functions come to. Printed by a program of this session. -/
import Derived.Test.YtkjpakaidjpjgaaGreatDoorDfnF3
namespace Go.Proofs.YtkjpakaidjpjgaaGreatDoor.Dfn
open Go
set_option maxRecDepth 100000
set_option linter.unusedVariables false
noncomputable section
def r20_Few_r (a0 : Wrld) : Option (Bool × Unit) :=
 bif decide ((a0.2.1.1.length : Int) ≤ 160) then
  bif decide ((a0.2.1.2.1.length : Int) ≤ 10) then
   (r18_Few (a0.2.2.1, ())).bind fun y1 =>
   bif y1.1 then
    (r17_Few (a0.2.2.2.1, ())).bind fun y2 =>
    bif y2.1 then
     some (decide ((a0.2.2.2.2.2.2.2.1.length : Int) ≤ 50), ())
    else
    some (false, ())
   else
   some (false, ())
  else
  some (false, ())
 else
 some (false, ())
def r20_Few (x : Wrld × Unit) : Option (Bool × Unit) := r20_Few_r x.1
def r20_Few_sm : Sum := ⟨(.cons cWrld .nil), (.cons (.d .bool) .nil), r20_Few⟩
def r20_Few_c : Ctx := ⟨[(56, r18_Few_sm), (57, r17_Few_sm)], [], []⟩
theorem r20_Few_sem : SemOf Tryz.prog 18 r20_Few_sm := semC (c := r20_Few_c) Tryz.func18 (sc r18_Few_sem (sc r17_Few_sem an)) an an 8
abbrev r20_Caches_h0 : U := (.cons cI (.cons cWrld (.cons (.sl (.arr 4 cI)) .nil)))
abbrev r20_Caches_o0 : U := (.cons (.sl (.arr 4 cI)) .nil)
abbrev r20_Caches_e0 : U := .nil
def r20_Caches_s0r (v4 : Int) (c0 : Wrld) (r64 : List (List Int)) : Option (SRes r20_Caches_h0 r20_Caches_o0 r20_Caches_e0) :=
 bif decide (v4 < (c0.2.2.1.length : Int)) then
  bif decide (0 ≤ v4) then
   bif decide (v4 < (c0.2.2.1.length : Int)) then
    bif decide ((r64.length + 1) * 32 ≤ 140737488355328) then
     some (.next (wi64 (v4 + 1), c0, r64 ++ [(c0.2.2.1.getD v4.toNat ([], 0, (0, 0, 0, 0, ()), 0, (0, 0, ()), List.replicate 4 0, ())).2.2.2.2.2.1], ()))
    else none
   else none
  else none
 else
 some (.fin (.out (r64, ())))
def r20_Caches_s0 (x : r20_Caches_h0.T) : Option (SRes r20_Caches_h0 r20_Caches_o0 r20_Caches_e0) := r20_Caches_s0r x.1 x.2.1 x.2.2.1
def r20_Caches_l0 (x : r20_Caches_h0.T) : Option (LRes r20_Caches_o0 r20_Caches_e0) := iterL r20_Caches_s0 9223372036854775808 x
def r20_Caches_r (a0 : Wrld) : Option ((List (List Int)) × Unit) :=
 (r20_Caches_l0 (0, a0, [], ())).bind fun s1 => match s1 with
 | .out s1 =>
  some (s1.1, ())
 | .ret s1 =>
  none
def r20_Caches (x : Wrld × Unit) : Option ((List (List Int)) × Unit) := r20_Caches_r x.1
def r20_Caches_sm : Sum := ⟨(.cons cWrld .nil), (.cons (.own (.arr 4 cI)) .nil), r20_Caches⟩
def r20_Caches_L0 : LoopSum := { hc := ⟨[], [1, 3, 4], [(.tmp 3, (.arr 4 cI))], [], [0], [], 64⟩, h := ⟨[(1, (.pvar 0 [])), (3, (.row 64)), (4, (.d cI))], [(0, (.d cWrld))], [(64, (.arr 4 cI), true)], 65⟩, xid := 0, oc := ⟨[], [3], [(.tmp 3, (.arr 4 cI))], [], [], [], 64⟩, o := ⟨[(3, (.row 64))], [], [(64, (.arr 4 cI), true)], 65⟩, rc := ⟨[], [], [], [], [64], [], 64⟩, r := ⟨[], [], [], 64⟩, F := r20_Caches_l0 }
def r20_Caches_c : Ctx := ⟨[], [], [⟨8, 49, 0, 0, r20_Caches_L0⟩]⟩
theorem r20_Caches_sem : SemOf Tryz.prog 49 r20_Caches_sm := semC (c := r20_Caches_c) Tryz.func49 an an (ec (aeC [true, true, false, true, false, false] r20_Caches_s0 Tryz.func49) an) 8
def r20_May_r (a0 : Rep) : Option (Bool × Unit) :=
 bif decide (a0.1 < 1) then
  some (false, ())
 else
 bif decide (a0.1 > 16) then
  some (false, ())
 else
 bif decide (a0.2.1 < 1) then
  some (false, ())
 else
 bif decide (a0.2.1 > 8) then
  some (false, ())
 else
 bif decide (a0.2.2.1 < 1) then
  some (false, ())
 else
 bif decide (a0.2.2.1 > 8) then
  some (false, ())
 else
 bif decide (a0.2.2.2.1 ≥ 0) then
  bif decide (a0.2.2.2.1 ≤ 16) then
   bif decide (a0.2.2.2.2.1 ≥ 0) then
    some (decide (a0.2.2.2.2.1 ≤ 8), ())
   else
   some (false, ())
  else
  some (false, ())
 else
 some (false, ())
def r20_May (x : Rep × Unit) : Option (Bool × Unit) := r20_May_r x.1
def r20_May_sm : Sum := ⟨(.cons cRep .nil), (.cons (.d .bool) .nil), r20_May⟩
def r20_May_c : Ctx := ⟨[], [], []⟩
theorem r20_May_sem : SemOf Tryz.prog 77 r20_May_sm := semC (c := r20_May_c) Tryz.func77 an an an 8
abbrev r06_Right_h0 : U := (.cons cI (.cons cSpan .nil))
abbrev r06_Right_o0 : U := .nil
abbrev r06_Right_e0 : U := (.cons .bool .nil)
def r06_Right_s0r (v3 : Int) (c0 : Span) : Option (SRes r06_Right_h0 r06_Right_o0 r06_Right_e0) :=
 bif decide (v3 < 32) then
  (r03_Has (c0.2.2.1, v3, ())).bind fun y3 =>
  bif y3.1 then
   some (.fin (.ret (false, ())))
  else
  some (.next (wi64 (v3 + 1), c0, ()))
 else
 some (.fin (.out ()))
def r06_Right_s0 (x : r06_Right_h0.T) : Option (SRes r06_Right_h0 r06_Right_o0 r06_Right_e0) := r06_Right_s0r x.1 x.2.1
def r06_Right_l0 (x : r06_Right_h0.T) : Option (LRes r06_Right_o0 r06_Right_e0) := iterL r06_Right_s0 9223372036854775808 x
def r06_Right_r (a0 : Span) : Option (Bool × Unit) :=
 bif a0.1 == 0 then
  bif a0.2.1 == 0 then
   some (a0.2.2.1 == 0, ())
  else
  some (false, ())
 else
 (r06_InUse (a0, ())).bind fun y1 =>
 bif !y1.1 then
  some (false, ())
 else
 bif decide (a0.2.1 < 0) then
  some (false, ())
 else
 bif decide (a0.2.1 > 3) then
  some (false, ())
 else
 (r04_Blocks (a0.2.1, ())).bind fun y2 =>
 (r06_Right_l0 (y2.1, a0, ())).bind fun s4 => match s4 with
 | .out s4 =>
  some (true, ())
 | .ret s4 =>
  some (s4.1, ())
def r06_Right (x : Span × Unit) : Option (Bool × Unit) := r06_Right_r x.1
def r06_Right_sm : Sum := ⟨(.cons cSpan .nil), (.cons (.d .bool) .nil), r06_Right⟩
def r06_Right_L0 : LoopSum := { hc := ⟨[], [1, 3], [], [], [0], [], 352⟩, h := ⟨[(1, (.pvar 0 [])), (3, (.d cI))], [(0, (.d cSpan))], [], 352⟩, xid := 0, oc := ⟨[], [], [], [], [], [], 352⟩, o := ⟨[], [], [], 352⟩, rc := ⟨[], [2], [], [], [], [], 352⟩, r := ⟨[(2, (.d .bool))], [], [], 352⟩, F := r06_Right_l0 }
def r06_Right_c : Ctx := ⟨[(83, r04_Blocks_sm), (84, r03_Has_sm), (219, r06_InUse_sm)], [], [⟨8, 150, 0, 0, r06_Right_L0⟩]⟩
theorem r06_Right_sem : SemOf Tryz.prog 150 r06_Right_sm := semC (c := r06_Right_c) Tryz.func150 (sc r04_Blocks_sem (sc r03_Has_sem (sc r06_InUse_sem an))) an (ec (aeC [true, true, true, false, true, false, false] r06_Right_s0 Tryz.func150) an) 8
abbrev r07_Form_h0 : U := (.cons cI (.cons cHeap .nil))
abbrev r07_Form_o0 : U := .nil
abbrev r07_Form_e0 : U := (.cons .bool .nil)
def r07_Form_s0r (v3 : Int) (c0 : Heap) : Option (SRes r07_Form_h0 r07_Form_o0 r07_Form_e0) :=
 bif decide (v3 < (c0.2.1.length : Int)) then
  bif decide (0 ≤ v3) then
   bif decide (v3 < (c0.2.1.length : Int)) then
    (r06_Right (c0.2.1.getD v3.toNat (0, 0, 0, ()), ())).bind fun y1 =>
    bif !y1.1 then
     some (.fin (.ret (false, ())))
    else
    some (.next (wi64 (v3 + 1), c0, ()))
   else none
  else none
 else
 some (.fin (.out ()))
def r07_Form_s0 (x : r07_Form_h0.T) : Option (SRes r07_Form_h0 r07_Form_o0 r07_Form_e0) := r07_Form_s0r x.1 x.2.1
def r07_Form_l0 (x : r07_Form_h0.T) : Option (LRes r07_Form_o0 r07_Form_e0) := iterL r07_Form_s0 9223372036854775808 x
def r07_Form_r (a0 : Heap) : Option (Bool × Unit) :=
 bif decide ((a0.2.1.length : Int) < 1) then
  some (false, ())
 else
 bif decide ((a0.2.1.length : Int) > 16) then
  some (false, ())
 else
 bif (a0.1.length : Int) != (wi64 (32 * (a0.2.1.length : Int))) then
  some (false, ())
 else
 (r07_Form_l0 (0, a0, ())).bind fun s2 => match s2 with
 | .out s2 =>
  some (true, ())
 | .ret s2 =>
  some (s2.1, ())
def r07_Form (x : Heap × Unit) : Option (Bool × Unit) := r07_Form_r x.1
def r07_Form_sm : Sum := ⟨(.cons cHeap .nil), (.cons (.d .bool) .nil), r07_Form⟩
def r07_Form_L0 : LoopSum := { hc := ⟨[], [1, 3], [], [], [0], [], 368⟩, h := ⟨[(1, (.pvar 0 [])), (3, (.d cI))], [(0, (.d cHeap))], [], 368⟩, xid := 0, oc := ⟨[], [], [], [], [], [], 368⟩, o := ⟨[], [], [], 368⟩, rc := ⟨[], [2], [], [], [], [], 368⟩, r := ⟨[(2, (.d .bool))], [], [], 368⟩, F := r07_Form_l0 }
def r07_Form_c : Ctx := ⟨[(150, r06_Right_sm)], [], [⟨8, 78, 0, 0, r07_Form_L0⟩]⟩
theorem r07_Form_sem : SemOf Tryz.prog 78 r07_Form_sm := semC (c := r07_Form_c) Tryz.func78 (sc r06_Right_sem an) an (ec (aeC [true, true, false, true, false, false] r07_Form_s0 Tryz.func78) an) 8
abbrev r11_Right_h0 : U := (.cons (.sl (.arr 4 cI)) (.cons cI (.cons cI (.cons cI (.cons cI (.cons cI (.cons cI (.cons cHeap .nil))))))))
abbrev r11_Right_o0 : U := (.cons (.sl (.arr 4 cI)) (.cons cI (.cons cI (.cons cI (.cons cI (.cons cI (.cons cHeap .nil)))))))
abbrev r11_Right_e0 : U := .nil
def r11_Right_s0r (v1 : List (List Int)) (v5 : Int) (v6 : Int) (v7 : Int) (v8 : Int) (v9 : Int) (v10 : Int) (c0 : Heap) : Option (SRes r11_Right_h0 r11_Right_o0 r11_Right_e0) :=
 bif decide (v10 < 4) then
  bif decide (0 ≤ v9) then
   bif decide (v9 < (v1.length : Int)) then
    bif decide (0 ≤ v10) then
     bif decide (v10 < 4) then
      bif ((v1.getD v9.toNat (List.replicate 4 0)).getD v10.toNat 0) == v7 then
       some (.next (v1, v5, v6, v7, wi64 (v8 + 1), v9, wi64 (v10 + 1), c0, ()))
      else
      some (.next (v1, v5, v6, v7, v8, v9, wi64 (v10 + 1), c0, ()))
     else none
    else none
   else none
  else none
 else
 some (.fin (.out (v1, v5, v6, v7, v8, v9, c0, ())))
def r11_Right_s0 (x : r11_Right_h0.T) : Option (SRes r11_Right_h0 r11_Right_o0 r11_Right_e0) := r11_Right_s0r x.1 x.2.1 x.2.2.1 x.2.2.2.1 x.2.2.2.2.1 x.2.2.2.2.2.1 x.2.2.2.2.2.2.1 x.2.2.2.2.2.2.2.1
def r11_Right_l0 (x : r11_Right_h0.T) : Option (LRes r11_Right_o0 r11_Right_e0) := iterL r11_Right_s0 9223372036854775808 x
abbrev r11_Right_h1 : U := (.cons (.sl (.arr 4 cI)) (.cons cI (.cons cI (.cons cI (.cons cI (.cons cI (.cons cHeap .nil)))))))
abbrev r11_Right_o1 : U := (.cons (.sl (.arr 4 cI)) (.cons cI (.cons cI (.cons cI (.cons cHeap .nil)))))
abbrev r11_Right_e1 : U := .nil
def r11_Right_s1r (v1 : List (List Int)) (v5 : Int) (v6 : Int) (v7 : Int) (v8 : Int) (v9 : Int) (c0 : Heap) : Option (SRes r11_Right_h1 r11_Right_o1 r11_Right_e1) :=
 bif decide (v9 < (v1.length : Int)) then
  (r11_Right_l0 (v1, v5, v6, v7, v8, v9, 0, c0, ())).bind fun s1 => match s1 with
  | .out s1 =>
   some (.next (s1.1, s1.2.1, s1.2.2.1, s1.2.2.2.1, s1.2.2.2.2.1, wi64 (s1.2.2.2.2.2.1 + 1), s1.2.2.2.2.2.2.1, ()))
  | .ret s1 =>
   none
 else
 some (.fin (.out (v1, v5, v6, v8, c0, ())))
def r11_Right_s1 (x : r11_Right_h1.T) : Option (SRes r11_Right_h1 r11_Right_o1 r11_Right_e1) := r11_Right_s1r x.1 x.2.1 x.2.2.1 x.2.2.2.1 x.2.2.2.2.1 x.2.2.2.2.2.1 x.2.2.2.2.2.2.1
def r11_Right_l1 (x : r11_Right_h1.T) : Option (LRes r11_Right_o1 r11_Right_e1) := iterL r11_Right_s1 9223372036854775808 x
abbrev r11_Right_h2 : U := (.cons (.sl (.arr 4 cI)) (.cons cI (.cons cI (.cons cHeap .nil))))
abbrev r11_Right_o2 : U := (.cons (.sl (.arr 4 cI)) (.cons cI (.cons cHeap .nil)))
abbrev r11_Right_e2 : U := (.cons .bool .nil)
def r11_Right_s2r (v1 : List (List Int)) (v5 : Int) (v6 : Int) (c0 : Heap) : Option (SRes r11_Right_h2 r11_Right_o2 r11_Right_e2) :=
 bif decide (v6 < 4) then
  bif decide (0 ≤ v5) then
   bif decide (v5 < (v1.length : Int)) then
    bif decide (0 ≤ v6) then
     bif decide (v6 < 4) then
      bif ((v1.getD v5.toNat (List.replicate 4 0)).getD v6.toNat 0) == (-1) then
       some (.next (v1, v5, wi64 (v6 + 1), c0, ()))
      else
      bif decide (((v1.getD v5.toNat (List.replicate 4 0)).getD v6.toNat 0) < 0) then
       some (.fin (.ret (false, ())))
      else
      bif decide (((v1.getD v5.toNat (List.replicate 4 0)).getD v6.toNat 0) ≥ (c0.2.1.length : Int)) then
       some (.fin (.ret (false, ())))
      else
      bif decide (0 ≤ ((v1.getD v5.toNat (List.replicate 4 0)).getD v6.toNat 0)) then
       bif decide (((v1.getD v5.toNat (List.replicate 4 0)).getD v6.toNat 0) < (c0.2.1.length : Int)) then
        bif (c0.2.1.getD ((v1.getD v5.toNat (List.replicate 4 0)).getD v6.toNat 0).toNat (0, 0, 0, ())).1 == 0 then
         some (.fin (.ret (false, ())))
        else
        bif decide (0 ≤ ((v1.getD v5.toNat (List.replicate 4 0)).getD v6.toNat 0)) then
         bif decide (((v1.getD v5.toNat (List.replicate 4 0)).getD v6.toNat 0) < (c0.2.1.length : Int)) then
          bif (c0.2.1.getD ((v1.getD v5.toNat (List.replicate 4 0)).getD v6.toNat 0).toNat (0, 0, 0, ())).2.1 != v6 then
           some (.fin (.ret (false, ())))
          else
          (r11_Right_l1 (v1, v5, v6, (v1.getD v5.toNat (List.replicate 4 0)).getD v6.toNat 0, 0, 0, c0, ())).bind fun s2 => match s2 with
          | .out s2 =>
           bif s2.2.2.2.1 != 1 then
            some (.fin (.ret (false, ())))
           else
           some (.next (s2.1, s2.2.1, wi64 (s2.2.2.1 + 1), s2.2.2.2.2.1, ()))
          | .ret s2 =>
           none
         else none
        else none
       else none
      else none
     else none
    else none
   else none
  else none
 else
 some (.fin (.out (v1, v5, c0, ())))
def r11_Right_s2 (x : r11_Right_h2.T) : Option (SRes r11_Right_h2 r11_Right_o2 r11_Right_e2) := r11_Right_s2r x.1 x.2.1 x.2.2.1 x.2.2.2.1
def r11_Right_l2 (x : r11_Right_h2.T) : Option (LRes r11_Right_o2 r11_Right_e2) := iterL r11_Right_s2 9223372036854775808 x
abbrev r11_Right_h3 : U := (.cons (.sl (.arr 4 cI)) (.cons cI (.cons cHeap .nil)))
abbrev r11_Right_o3 : U := .nil
abbrev r11_Right_e3 : U := (.cons .bool .nil)
def r11_Right_s3r (v1 : List (List Int)) (v5 : Int) (c0 : Heap) : Option (SRes r11_Right_h3 r11_Right_o3 r11_Right_e3) :=
 bif decide (v5 < (v1.length : Int)) then
  (r11_Right_l2 (v1, v5, 0, c0, ())).bind fun s3 => match s3 with
  | .out s3 =>
   some (.next (s3.1, wi64 (s3.2.1 + 1), s3.2.2.1, ()))
  | .ret s3 =>
   some (.fin (.ret (s3.1, ())))
 else
 some (.fin (.out ()))
def r11_Right_s3 (x : r11_Right_h3.T) : Option (SRes r11_Right_h3 r11_Right_o3 r11_Right_e3) := r11_Right_s3r x.1 x.2.1 x.2.2.1
def r11_Right_l3 (x : r11_Right_h3.T) : Option (LRes r11_Right_o3 r11_Right_e3) := iterL r11_Right_s3 9223372036854775808 x
def r11_Right_r (a0 : Heap) (a1 : List (List Int)) : Option (Bool × Unit) :=
 (r11_Right_l3 (a1, 0, a0, ())).bind fun s4 => match s4 with
 | .out s4 =>
  some (true, ())
 | .ret s4 =>
  some (s4.1, ())
def r11_Right (x : Heap × (List (List Int)) × Unit) : Option (Bool × Unit) := r11_Right_r x.1 x.2.1
def r11_Right_sm : Sum := ⟨(.cons cHeap (.cons (.sl (.arr 4 cI)) .nil)), (.cons (.d .bool) .nil), r11_Right⟩
def r11_Right_L0 : LoopSum := { hc := ⟨[], [1, 2, 5, 6, 7, 8, 9, 10], [], [], [0], [], 864⟩, h := ⟨[(1, (.d (.sl (.arr 4 cI)))), (2, (.pvar 0 [])), (5, (.d cI)), (6, (.d cI)), (7, (.d cI)), (8, (.d cI)), (9, (.d cI)), (10, (.d cI))], [(0, (.d cHeap))], [], 864⟩, xid := 6, oc := ⟨[], [1, 2, 5, 6, 7, 8, 9], [], [], [0], [], 864⟩, o := ⟨[(1, (.d (.sl (.arr 4 cI)))), (2, (.pvar 0 [])), (5, (.d cI)), (6, (.d cI)), (7, (.d cI)), (8, (.d cI)), (9, (.d cI))], [(0, (.d cHeap))], [], 864⟩, rc := ⟨[], [], [], [], [864], [], 864⟩, r := ⟨[], [], [], 864⟩, F := r11_Right_l0 }
def r11_Right_L1 : LoopSum := { hc := ⟨[], [1, 2, 5, 6, 7, 8, 9], [], [], [0], [], 784⟩, h := ⟨[(1, (.d (.sl (.arr 4 cI)))), (2, (.pvar 0 [])), (5, (.d cI)), (6, (.d cI)), (7, (.d cI)), (8, (.d cI)), (9, (.d cI))], [(0, (.d cHeap))], [], 784⟩, xid := 4, oc := ⟨[], [1, 2, 5, 6, 8], [], [], [0], [], 784⟩, o := ⟨[(1, (.d (.sl (.arr 4 cI)))), (2, (.pvar 0 [])), (5, (.d cI)), (6, (.d cI)), (8, (.d cI))], [(0, (.d cHeap))], [], 784⟩, rc := ⟨[], [], [], [], [784], [], 784⟩, r := ⟨[], [], [], 784⟩, F := r11_Right_l1 }
def r11_Right_L2 : LoopSum := { hc := ⟨[], [1, 2, 5, 6], [], [], [0], [], 128⟩, h := ⟨[(1, (.d (.sl (.arr 4 cI)))), (2, (.pvar 0 [])), (5, (.d cI)), (6, (.d cI))], [(0, (.d cHeap))], [], 128⟩, xid := 2, oc := ⟨[], [1, 2, 5], [], [], [0], [], 128⟩, o := ⟨[(1, (.d (.sl (.arr 4 cI)))), (2, (.pvar 0 [])), (5, (.d cI))], [(0, (.d cHeap))], [], 128⟩, rc := ⟨[], [4], [], [], [], [], 128⟩, r := ⟨[(4, (.d .bool))], [], [], 128⟩, F := r11_Right_l2 }
def r11_Right_L3 : LoopSum := { hc := ⟨[], [1, 2, 5], [], [], [0], [], 48⟩, h := ⟨[(1, (.d (.sl (.arr 4 cI)))), (2, (.pvar 0 [])), (5, (.d cI))], [(0, (.d cHeap))], [], 48⟩, xid := 0, oc := ⟨[], [], [], [], [], [], 48⟩, o := ⟨[], [], [], 48⟩, rc := ⟨[], [4], [], [], [], [], 48⟩, r := ⟨[(4, (.d .bool))], [], [], 48⟩, F := r11_Right_l3 }
def r11_Right_c : Ctx := ⟨[], [], [⟨8, 79, 0, 6, r11_Right_L0⟩, ⟨8, 79, 0, 4, r11_Right_L1⟩, ⟨8, 79, 0, 2, r11_Right_L2⟩, ⟨8, 79, 0, 0, r11_Right_L3⟩]⟩
theorem r11_Right_sem : SemOf Tryz.prog 79 r11_Right_sm := semC (c := r11_Right_c) Tryz.func79 an an (ec (aeC [true, false, true, false, false, true, false, false, true, false, false, true, false, false, true, true, true, true, false, true, false, false, true, false, false, true, false, false] r11_Right_s0 Tryz.func79) (ec (aeC [true, false, true, false, false, true, false, false, true, false, false, true, false, false, true, true, true, true, false, true, false, false] r11_Right_s1 Tryz.func79) (ec (aeC [true, false, true, false, false, true, false, false, true, false, false] r11_Right_s2 Tryz.func79) (ec (aeC [true, false, true, false, false] r11_Right_s3 Tryz.func79) an)))) 8
def r02_May_r (a0 : Hdr) : Option (Bool × Unit) :=
 bif !a0.1 then
  bif !a0.2.1 then
   bif a0.2.2.1 == 0 then
    some (a0.2.2.2.1 == 0, ())
   else
   some (false, ())
  else
  some (false, ())
 else
 bif decide (a0.2.2.1 < 0) then
  some (false, ())
 else
 bif decide (a0.2.2.1 > 3) then
  some (false, ())
 else
 bif decide (a0.2.2.2.1 < 0) then
  some (false, ())
 else
 bif decide (0 ≤ a0.2.2.1) then
  bif decide (a0.2.2.1 < 4) then
   some (decide (a0.2.2.2.1 ≤ ([1, 3, 7, 15].getD a0.2.2.1.toNat 0)), ())
  else none
 else none
def r02_May (x : Hdr × Unit) : Option (Bool × Unit) := r02_May_r x.1
def r02_May_sm : Sum := ⟨(.cons cHdr .nil), (.cons (.d .bool) .nil), r02_May⟩
def r02_May_c : Ctx := ⟨[], [], []⟩
theorem r02_May_sem : SemOf Tryz.prog 208 r02_May_sm := semC (c := r02_May_c) Tryz.func208 an an an 8
abbrev r02_Get_h0 : U := (.cons (.int .u64) (.cons cI (.cons cI (.cons cI (.cons cHdr .nil)))))
abbrev r02_Get_o0 : U := (.cons (.int .u64) (.cons cI (.cons cI (.cons cHdr .nil))))
abbrev r02_Get_e0 : U := (.cons .bool (.cons cHdr .nil))
def r02_Get_s0r (v0 : Int) (v4 : Int) (v5 : Int) (v6 : Int) (c0 : Hdr) : Option (SRes r02_Get_h0 r02_Get_o0 r02_Get_e0) :=
 bif decide (v6 < 2) then
  (r02_May ((true, v6 == 1, v4, v5, ()), ())).bind fun y1 =>
  bif y1.1 then
   (r02_Put ((true, v6 == 1, v4, v5, ()), ())).bind fun y2 =>
   bif y2.1 == v0 then
    some (.fin (.ret (true, (true, v6 == 1, v4, v5, ()), ())))
   else
   some (.next (v0, v4, v5, wi64 (v6 + 1), c0, ()))
  else
  some (.next (v0, v4, v5, wi64 (v6 + 1), c0, ()))
 else
 some (.fin (.out (v0, v4, v5, c0, ())))
def r02_Get_s0 (x : r02_Get_h0.T) : Option (SRes r02_Get_h0 r02_Get_o0 r02_Get_e0) := r02_Get_s0r x.1 x.2.1 x.2.2.1 x.2.2.2.1 x.2.2.2.2.1
def r02_Get_l0 (x : r02_Get_h0.T) : Option (LRes r02_Get_o0 r02_Get_e0) := iterL r02_Get_s0 9223372036854775808 x
abbrev r02_Get_h1 : U := (.cons (.int .u64) (.cons cI (.cons cI (.cons cHdr .nil))))
abbrev r02_Get_o1 : U := (.cons (.int .u64) (.cons cI (.cons cHdr .nil)))
abbrev r02_Get_e1 : U := (.cons .bool (.cons cHdr .nil))
def r02_Get_s1r (v0 : Int) (v4 : Int) (v5 : Int) (c0 : Hdr) : Option (SRes r02_Get_h1 r02_Get_o1 r02_Get_e1) :=
 bif decide (v5 < 16) then
  (r02_Get_l0 (v0, v4, v5, 0, c0, ())).bind fun s3 => match s3 with
  | .out s3 =>
   some (.next (s3.1, s3.2.1, wi64 (s3.2.2.1 + 1), s3.2.2.2.1, ()))
  | .ret s3 =>
   some (.fin (.ret (s3.1, s3.2.1, ())))
 else
 some (.fin (.out (v0, v4, c0, ())))
def r02_Get_s1 (x : r02_Get_h1.T) : Option (SRes r02_Get_h1 r02_Get_o1 r02_Get_e1) := r02_Get_s1r x.1 x.2.1 x.2.2.1 x.2.2.2.1
def r02_Get_l1 (x : r02_Get_h1.T) : Option (LRes r02_Get_o1 r02_Get_e1) := iterL r02_Get_s1 9223372036854775808 x
abbrev r02_Get_h2 : U := (.cons (.int .u64) (.cons cI (.cons cHdr .nil)))
abbrev r02_Get_o2 : U := (.cons cHdr .nil)
abbrev r02_Get_e2 : U := (.cons .bool (.cons cHdr .nil))
def r02_Get_s2r (v0 : Int) (v4 : Int) (c0 : Hdr) : Option (SRes r02_Get_h2 r02_Get_o2 r02_Get_e2) :=
 bif decide (v4 < 4) then
  (r02_Get_l1 (v0, v4, 0, c0, ())).bind fun s4 => match s4 with
  | .out s4 =>
   some (.next (s4.1, wi64 (s4.2.1 + 1), s4.2.2.1, ()))
  | .ret s4 =>
   some (.fin (.ret (s4.1, s4.2.1, ())))
 else
 some (.fin (.out (c0, ())))
def r02_Get_s2 (x : r02_Get_h2.T) : Option (SRes r02_Get_h2 r02_Get_o2 r02_Get_e2) := r02_Get_s2r x.1 x.2.1 x.2.2.1
def r02_Get_l2 (x : r02_Get_h2.T) : Option (LRes r02_Get_o2 r02_Get_e2) := iterL r02_Get_s2 9223372036854775808 x
def r02_Get_r (a0 : Int) : Option (Hdr × Bool × Unit) :=
 bif a0 == 0 then
  some ((false, false, 0, 0, ()), true, ())
 else
 (r02_Get_l2 (a0, 0, (false, false, 0, 0, ()), ())).bind fun s5 => match s5 with
 | .out s5 =>
  some ((false, false, 0, 0, ()), false, ())
 | .ret s5 =>
  some (s5.2.1, s5.1, ())
def r02_Get (x : Int × Unit) : Option (Hdr × Bool × Unit) := r02_Get_r x.1
def r02_Get_sm : Sum := ⟨(.cons (.int .u64) .nil), (.cons (.d cHdr) (.cons (.d .bool) .nil)), r02_Get⟩
def r02_Get_L0 : LoopSum := { hc := ⟨[], [0, 2, 4, 5, 6], [], [], [0], [], 176⟩, h := ⟨[(0, (.d (.int .u64))), (2, (.pvar 0 [])), (4, (.d cI)), (5, (.d cI)), (6, (.d cI))], [(0, (.d cHdr))], [], 176⟩, xid := 4, oc := ⟨[], [0, 2, 4, 5], [], [], [0], [], 176⟩, o := ⟨[(0, (.d (.int .u64))), (2, (.pvar 0 [])), (4, (.d cI)), (5, (.d cI))], [(0, (.d cHdr))], [], 176⟩, rc := ⟨[], [2, 3], [], [], [0], [], 176⟩, r := ⟨[(2, (.pvar 0 [])), (3, (.d .bool))], [(0, (.d cHdr))], [], 176⟩, F := r02_Get_l0 }
def r02_Get_L1 : LoopSum := { hc := ⟨[], [0, 2, 4, 5], [], [], [0], [], 128⟩, h := ⟨[(0, (.d (.int .u64))), (2, (.pvar 0 [])), (4, (.d cI)), (5, (.d cI))], [(0, (.d cHdr))], [], 128⟩, xid := 2, oc := ⟨[], [0, 2, 4], [], [], [0], [], 128⟩, o := ⟨[(0, (.d (.int .u64))), (2, (.pvar 0 [])), (4, (.d cI))], [(0, (.d cHdr))], [], 128⟩, rc := ⟨[], [2, 3], [], [], [0], [], 128⟩, r := ⟨[(2, (.pvar 0 [])), (3, (.d .bool))], [(0, (.d cHdr))], [], 128⟩, F := r02_Get_l1 }
def r02_Get_L2 : LoopSum := { hc := ⟨[], [0, 2, 4], [], [], [0], [], 80⟩, h := ⟨[(0, (.d (.int .u64))), (2, (.pvar 0 [])), (4, (.d cI))], [(0, (.d cHdr))], [], 80⟩, xid := 0, oc := ⟨[], [2], [], [], [0], [], 80⟩, o := ⟨[(2, (.pvar 0 []))], [(0, (.d cHdr))], [], 80⟩, rc := ⟨[], [2, 3], [], [], [0], [], 80⟩, r := ⟨[(2, (.pvar 0 [])), (3, (.d .bool))], [(0, (.d cHdr))], [], 80⟩, F := r02_Get_l2 }
def r02_Get_c : Ctx := ⟨[(195, r02_Put_sm), (208, r02_May_sm)], [], [⟨8, 142, 0, 4, r02_Get_L0⟩, ⟨8, 142, 0, 2, r02_Get_L1⟩, ⟨8, 142, 0, 0, r02_Get_L2⟩]⟩
theorem r02_Get_sem : SemOf Tryz.prog 142 r02_Get_sm := semC (c := r02_Get_c) Tryz.func142 (sc r02_Put_sem (sc r02_May_sem an)) an (ec (aeC [true, true, false, true, false, false, true, false, false, true, false, false, true, false, false, true, false, false] r02_Get_s0 Tryz.func142) (ec (aeC [true, true, false, true, false, false, true, false, false, true, false, false] r02_Get_s1 Tryz.func142) (ec (aeC [true, true, false, true, false, false] r02_Get_s2 Tryz.func142) an))) 8
def r08_Get_r (a0 : Heap) (a1 : Int) : Option (Hdr × Bool × Unit) :=
 (r07_Find (a0, a1, ())).bind fun y1 =>
 bif !y1.2.2.1 then
  some ((false, false, 0, 0, ()), false, ())
 else
 bif decide (0 ≤ a1) then
  bif decide (a1 < (a0.1.length : Int)) then
   (r02_Get (a0.1.getD a1.toNat 0, ())).bind fun y2 =>
   bif !y2.2.1 then
    some ((false, false, 0, 0, ()), false, ())
   else
   bif !y2.1.1 then
    some ((false, false, 0, 0, ()), false, ())
   else
   bif decide ((wi64 (a1 + y2.1.2.2.2.1)) ≥ (wi64 ((wi64 (32 * (wi64 (a1.tdiv 32)))) + 32))) then
    some ((false, false, 0, 0, ()), false, ())
   else
   some (y2.1, true, ())
  else none
 else none
def r08_Get (x : Heap × Int × Unit) : Option (Hdr × Bool × Unit) := r08_Get_r x.1 x.2.1
def r08_Get_sm : Sum := ⟨(.cons cHeap (.cons cI .nil)), (.cons (.d cHdr) (.cons (.d .bool) .nil)), r08_Get⟩
def r08_Get_c : Ctx := ⟨[(141, r07_Find_sm), (142, r02_Get_sm)], [], []⟩
theorem r08_Get_sem : SemOf Tryz.prog 65 r08_Get_sm := semC (c := r08_Get_c) Tryz.func65 (sc r07_Find_sem (sc r02_Get_sem an)) an an 8
def r01_Get_r (a0 : Int) : Option (Val × Unit) :=
 bif a0 == 0 then
  some ((0, 0, ()), ())
 else
 bif (a0.tmod 2) == 1 then
  some ((1, wi64 (wu64 (a0.tdiv 2)), ()), ())
 else
 some ((2, wi64 (wu64 ((wu64 (a0.tdiv 2)) - 1)), ()), ())
def r01_Get (x : Int × Unit) : Option (Val × Unit) := r01_Get_r x.1
def r01_Get_sm : Sum := ⟨(.cons (.int .u64) .nil), (.cons (.cons (.d cI) (.cons (.d cI) .nil)) .nil), r01_Get⟩
def r01_Get_c : Ctx := ⟨[], [], []⟩
theorem r01_Get_sem : SemOf Tryz.prog 187 r01_Get_sm := semC (c := r01_Get_c) Tryz.func187 an an an 8
def r08_Field_r (a0 : Heap) (a1 : Int) (a2 : Int) : Option (Val × Int × Unit) :=
 (r08_Get (a0, a1, ())).bind fun y1 =>
 bif !y1.2.1 then
  some ((0, 0, ()), 1, ())
 else
 bif decide (a2 < 0) then
  some ((0, 0, ()), 4, ())
 else
 bif decide (a2 ≥ y1.1.2.2.2.1) then
  some ((0, 0, ()), 4, ())
 else
 bif decide (0 ≤ (wi64 ((wi64 (a1 + 1)) + a2))) then
  bif decide ((wi64 ((wi64 (a1 + 1)) + a2)) < (a0.1.length : Int)) then
   (r01_Get (a0.1.getD (wi64 ((wi64 (a1 + 1)) + a2)).toNat 0, ())).bind fun y2 =>
   some ((y2.1.1, y2.1.2.1, ()), 0, ())
  else none
 else none
def r08_Field (x : Heap × Val) : Option (Val × Int × Unit) := r08_Field_r x.1 x.2.1 x.2.2.1
def r08_Field_sm : Sum := ⟨(.cons cHeap cVal), (.cons (.cons (.d cI) (.cons (.d cI) .nil)) (.cons (.d cI) .nil)), r08_Field⟩
def r08_Field_c : Ctx := ⟨[(65, r08_Get_sm), (187, r01_Get_sm)], [], []⟩
theorem r08_Field_sem : SemOf Tryz.prog 109 r08_Field_sm := semC (c := r08_Field_c) Tryz.func109 (sc r08_Get_sem (sc r01_Get_sem an)) an an 8
abbrev r13_Right_h0 : U := (.cons cI (.cons cGrey .nil))
abbrev r13_Right_o0 : U := .nil
abbrev r13_Right_e0 : U := (.cons .bool .nil)
def r13_Right_s0r (v3 : Int) (c0 : Grey) : Option (SRes r13_Right_h0 r13_Right_o0 r13_Right_e0) :=
 bif decide (v3 < (c0.2.1.length : Int)) then
  bif decide (0 ≤ v3) then
   bif decide (v3 < (c0.2.1.length : Int)) then
    bif decide ((c0.2.1.getD v3.toNat 0) < 0) then
     some (.fin (.ret (false, ())))
    else
    some (.next (wi64 (v3 + 1), c0, ()))
   else none
  else none
 else
 some (.fin (.out ()))
def r13_Right_s0 (x : r13_Right_h0.T) : Option (SRes r13_Right_h0 r13_Right_o0 r13_Right_e0) := r13_Right_s0r x.1 x.2.1
def r13_Right_l0 (x : r13_Right_h0.T) : Option (LRes r13_Right_o0 r13_Right_e0) := iterL r13_Right_s0 9223372036854775808 x
def r13_Right_r (a0 : Grey) : Option (Bool × Unit) :=
 bif decide (a0.1 < 0) then
  some (false, ())
 else
 bif decide (a0.1 > 16) then
  some (false, ())
 else
 bif decide ((a0.2.1.length : Int) > a0.1) then
  some (false, ())
 else
 (r13_Right_l0 (0, a0, ())).bind fun s1 => match s1 with
 | .out s1 =>
  some (true, ())
 | .ret s1 =>
  some (s1.1, ())
def r13_Right (x : Grey × Unit) : Option (Bool × Unit) := r13_Right_r x.1
def r13_Right_sm : Sum := ⟨(.cons cGrey .nil), (.cons (.d .bool) .nil), r13_Right⟩
def r13_Right_L0 : LoopSum := { hc := ⟨[], [1, 3], [], [], [0], [], 304⟩, h := ⟨[(1, (.pvar 0 [])), (3, (.d cI))], [(0, (.d cGrey))], [], 304⟩, xid := 0, oc := ⟨[], [], [], [], [], [], 304⟩, o := ⟨[], [], [], 304⟩, rc := ⟨[], [2], [], [], [], [], 304⟩, r := ⟨[(2, (.d .bool))], [], [], 304⟩, F := r13_Right_l0 }
def r13_Right_c : Ctx := ⟨[], [], [⟨8, 151, 0, 0, r13_Right_L0⟩]⟩
theorem r13_Right_sem : SemOf Tryz.prog 151 r13_Right_sm := semC (c := r13_Right_c) Tryz.func151 an an (ec (aeC [true, true, false, true, false, false] r13_Right_s0 Tryz.func151) an) 8
abbrev r17_Right_h0 : U := (.cons cI (.cons cHeap (.cons cMarker .nil)))
abbrev r17_Right_o0 : U := (.cons cHeap (.cons cMarker .nil))
abbrev r17_Right_e0 : U := (.cons .bool .nil)
def r17_Right_s0r (v5 : Int) (c0 : Heap) (c16 : Marker) : Option (SRes r17_Right_h0 r17_Right_o0 r17_Right_e0) :=
 bif decide (v5 < (c16.2.1.length : Int)) then
  bif decide (0 ≤ v5) then
   bif decide (v5 < (c16.2.1.length : Int)) then
    (r13_Right (c16.2.1.getD v5.toNat (0, [], ()), ())).bind fun y1 =>
    bif !y1.1 then
     some (.fin (.ret (false, ())))
    else
    some (.next (wi64 (v5 + 1), c0, c16, ()))
   else none
  else none
 else
 some (.fin (.out (c0, c16, ())))
def r17_Right_s0 (x : r17_Right_h0.T) : Option (SRes r17_Right_h0 r17_Right_o0 r17_Right_e0) := r17_Right_s0r x.1 x.2.1 x.2.2.1
def r17_Right_l0 (x : r17_Right_h0.T) : Option (LRes r17_Right_o0 r17_Right_e0) := iterL r17_Right_s0 9223372036854775808 x
def r17_Right_r (a0 : Heap) (a1 : Marker) : Option (Bool × Unit) :=
 (r17_Right_l0 (0, a0, a1, ())).bind fun s2 => match s2 with
 | .out s2 =>
  (r13_Right (s2.2.1.1, ())).bind fun y3 =>
  bif !y3.1 then
   some (false, ())
  else
  bif decide (s2.2.1.2.2.2.2.2.1 < (-1)) then
   some (false, ())
  else
  bif decide (s2.2.1.2.2.2.2.2.1 > (s2.1.1.length : Int)) then
   some (false, ())
  else
  bif s2.2.1.2.2.2.1 == (-1) then
   some (s2.2.1.2.2.2.2.1 == 0, ())
  else
  (r08_Field (s2.1, s2.2.1.2.2.2.1, s2.2.1.2.2.2.2.1, ())).bind fun y4 =>
  some (y4.2.1 == 0, ())
 | .ret s2 =>
  some (s2.1, ())
def r17_Right (x : Heap × Marker × Unit) : Option (Bool × Unit) := r17_Right_r x.1 x.2.1
def r17_Right_sm : Sum := ⟨(.cons cHeap (.cons cMarker .nil)), (.cons (.d .bool) .nil), r17_Right⟩
def r17_Right_L0 : LoopSum := { hc := ⟨[], [2, 3, 5], [], [], [0, 16], [], 64⟩, h := ⟨[(2, (.pvar 0 [])), (3, (.pvar 16 [])), (5, (.d cI))], [(0, (.d cHeap)), (16, (.d cMarker))], [], 64⟩, xid := 0, oc := ⟨[], [2, 3], [], [], [0, 16], [], 64⟩, o := ⟨[(2, (.pvar 0 [])), (3, (.pvar 16 []))], [(0, (.d cHeap)), (16, (.d cMarker))], [], 64⟩, rc := ⟨[], [4], [], [], [], [], 64⟩, r := ⟨[(4, (.d .bool))], [], [], 64⟩, F := r17_Right_l0 }
def r17_Right_c : Ctx := ⟨[(109, r08_Field_sm), (151, r13_Right_sm)], [], [⟨8, 80, 0, 0, r17_Right_L0⟩]⟩
theorem r17_Right_sem : SemOf Tryz.prog 80 r17_Right_sm := semC (c := r17_Right_c) Tryz.func80 (sc r08_Field_sem (sc r13_Right_sem an)) an (ec (aeC [true, false, true, false, false] r17_Right_s0 Tryz.func80) an) 8
abbrev r20_Form_h0 : U := (.cons cI (.cons cWrld .nil))
abbrev r20_Form_o0 : U := (.cons cWrld .nil)
abbrev r20_Form_e0 : U := (.cons .bool .nil)
def r20_Form_s0r (v3 : Int) (c0 : Wrld) : Option (SRes r20_Form_h0 r20_Form_o0 r20_Form_e0) :=
 bif decide (v3 < (c0.2.2.1.length : Int)) then
  bif decide (0 ≤ v3) then
   bif decide (v3 < (c0.2.2.1.length : Int)) then
    bif decide (((c0.2.2.1.getD v3.toNat ([], 0, (0, 0, 0, 0, ()), 0, (0, 0, ()), List.replicate 4 0, ())).1.length : Int) > c0.1.2.2.1) then
     some (.fin (.ret (false, ())))
    else
    some (.next (wi64 (v3 + 1), c0, ()))
   else none
  else none
 else
 some (.fin (.out (c0, ())))
def r20_Form_s0 (x : r20_Form_h0.T) : Option (SRes r20_Form_h0 r20_Form_o0 r20_Form_e0) := r20_Form_s0r x.1 x.2.1
def r20_Form_l0 (x : r20_Form_h0.T) : Option (LRes r20_Form_o0 r20_Form_e0) := iterL r20_Form_s0 9223372036854775808 x
def r20_Form_r (a0 : Wrld) : Option (Bool × Unit) :=
 (r20_May (a0.1, ())).bind fun y1 =>
 bif !y1.1 then
  some (false, ())
 else
 (r07_Form (a0.2.1, ())).bind fun y2 =>
 bif !y2.1 then
  some (false, ())
 else
 bif (a0.2.1.2.1.length : Int) != a0.1.1 then
  some (false, ())
 else
 bif (a0.2.2.1.length : Int) != a0.1.2.1 then
  some (false, ())
 else
 bif decide (a0.2.2.2.2.1 < 0) then
  some (false, ())
 else
 bif decide (a0.2.2.2.2.1 > 2) then
  some (false, ())
 else
 (r20_Form_l0 (0, a0, ())).bind fun s3 => match s3 with
 | .out s3 =>
  (r20_Caches (s3.1, ())).bind fun y4 =>
  (r11_Right (s3.1.2.1, y4.1, ())).bind fun y5 =>
  bif !y5.1 then
   some (false, ())
  else
  bif s3.1.2.2.2.2.1 == 1 then
   (r17_Right (s3.1.2.1, s3.1.2.2.2.1, ())).bind fun y6 =>
   bif y6.1 then
    some ((s3.1.2.2.2.1.2.1.length : Int) == (s3.1.2.2.1.length : Int), ())
   else
   some (false, ())
  else
  some (true, ())
 | .ret s3 =>
  some (s3.1, ())
def r20_Form (x : Wrld × Unit) : Option (Bool × Unit) := r20_Form_r x.1
def r20_Form_sm : Sum := ⟨(.cons cWrld .nil), (.cons (.d .bool) .nil), r20_Form⟩
def r20_Form_L0 : LoopSum := { hc := ⟨[], [1, 3], [], [], [0], [], 672⟩, h := ⟨[(1, (.pvar 0 [])), (3, (.d cI))], [(0, (.d cWrld))], [], 672⟩, xid := 0, oc := ⟨[], [1], [], [], [0], [], 672⟩, o := ⟨[(1, (.pvar 0 []))], [(0, (.d cWrld))], [], 672⟩, rc := ⟨[], [2], [], [], [], [], 672⟩, r := ⟨[(2, (.d .bool))], [], [], 672⟩, F := r20_Form_l0 }
def r20_Form_c : Ctx := ⟨[(49, r20_Caches_sm), (77, r20_May_sm), (78, r07_Form_sm), (79, r11_Right_sm), (80, r17_Right_sm)], [], [⟨8, 27, 0, 0, r20_Form_L0⟩]⟩
theorem r20_Form_sem : SemOf Tryz.prog 27 r20_Form_sm := semC (c := r20_Form_c) Tryz.func27 (sc r20_Caches_sem (sc r20_May_sem (sc r07_Form_sem (sc r11_Right_sem (sc r17_Right_sem an))))) an (ec (aeC [true, true, false, true, false, false] r20_Form_s0 Tryz.func27) an) 8
abbrev r21_Ready_h0 : U := (.cons cI (.cons cWrld .nil))
abbrev r21_Ready_o0 : U := .nil
abbrev r21_Ready_e0 : U := (.cons .bool .nil)
def r21_Ready_s0r (v3 : Int) (c0 : Wrld) : Option (SRes r21_Ready_h0 r21_Ready_o0 r21_Ready_e0) :=
 bif decide (v3 < (c0.2.2.1.length : Int)) then
  bif decide (0 ≤ v3) then
   bif decide (v3 < (c0.2.2.1.length : Int)) then
    bif decide ((c0.2.2.1.getD v3.toNat ([], 0, (0, 0, 0, 0, ()), 0, (0, 0, ()), List.replicate 4 0, ())).2.1 < 0) then
     some (.fin (.ret (false, ())))
    else
    bif decide ((c0.2.2.1.getD v3.toNat ([], 0, (0, 0, 0, 0, ()), 0, (0, 0, ()), List.replicate 4 0, ())).2.1 > 4) then
     some (.fin (.ret (false, ())))
    else
    bif decide ((c0.2.2.1.getD v3.toNat ([], 0, (0, 0, 0, 0, ()), 0, (0, 0, ()), List.replicate 4 0, ())).2.1 ≥ 1) then
     bif decide ((c0.2.2.1.getD v3.toNat ([], 0, (0, 0, 0, 0, ()), 0, (0, 0, ()), List.replicate 4 0, ())).2.1 ≤ 3) then
      bif decide (((c0.2.2.1.getD v3.toNat ([], 0, (0, 0, 0, 0, ()), 0, (0, 0, ()), List.replicate 4 0, ())).1.length : Int) ≥ c0.1.2.2.1) then
       some (.fin (.ret (false, ())))
      else
      bif (c0.2.2.1.getD v3.toNat ([], 0, (0, 0, 0, 0, ()), 0, (0, 0, ()), List.replicate 4 0, ())).2.1 == 1 then
       bif decide ((c0.2.2.1.getD v3.toNat ([], 0, (0, 0, 0, 0, ()), 0, (0, 0, ()), List.replicate 4 0, ())).2.2.1.2.1 < 0) then
        some (.fin (.ret (false, ())))
       else
       bif decide ((c0.2.2.1.getD v3.toNat ([], 0, (0, 0, 0, 0, ()), 0, (0, 0, ()), List.replicate 4 0, ())).2.2.1.2.1 > 15) then
        some (.fin (.ret (false, ())))
       else
       some (.next (wi64 (v3 + 1), c0, ()))
      else
      some (.next (wi64 (v3 + 1), c0, ()))
     else
     bif (c0.2.2.1.getD v3.toNat ([], 0, (0, 0, 0, 0, ()), 0, (0, 0, ()), List.replicate 4 0, ())).2.1 == 1 then
      bif decide ((c0.2.2.1.getD v3.toNat ([], 0, (0, 0, 0, 0, ()), 0, (0, 0, ()), List.replicate 4 0, ())).2.2.1.2.1 < 0) then
       some (.fin (.ret (false, ())))
      else
      bif decide ((c0.2.2.1.getD v3.toNat ([], 0, (0, 0, 0, 0, ()), 0, (0, 0, ()), List.replicate 4 0, ())).2.2.1.2.1 > 15) then
       some (.fin (.ret (false, ())))
      else
      some (.next (wi64 (v3 + 1), c0, ()))
     else
     some (.next (wi64 (v3 + 1), c0, ()))
    else
    bif (c0.2.2.1.getD v3.toNat ([], 0, (0, 0, 0, 0, ()), 0, (0, 0, ()), List.replicate 4 0, ())).2.1 == 1 then
     bif decide ((c0.2.2.1.getD v3.toNat ([], 0, (0, 0, 0, 0, ()), 0, (0, 0, ()), List.replicate 4 0, ())).2.2.1.2.1 < 0) then
      some (.fin (.ret (false, ())))
     else
     bif decide ((c0.2.2.1.getD v3.toNat ([], 0, (0, 0, 0, 0, ()), 0, (0, 0, ()), List.replicate 4 0, ())).2.2.1.2.1 > 15) then
      some (.fin (.ret (false, ())))
     else
     some (.next (wi64 (v3 + 1), c0, ()))
    else
    some (.next (wi64 (v3 + 1), c0, ()))
   else none
  else none
 else
 some (.fin (.out ()))
def r21_Ready_s0 (x : r21_Ready_h0.T) : Option (SRes r21_Ready_h0 r21_Ready_o0 r21_Ready_e0) := r21_Ready_s0r x.1 x.2.1
def r21_Ready_l0 (x : r21_Ready_h0.T) : Option (LRes r21_Ready_o0 r21_Ready_e0) := iterL r21_Ready_s0 9223372036854775808 x
def r21_Ready_r (a0 : Wrld) : Option (Bool × Unit) :=
 (r21_Ready_l0 (0, a0, ())).bind fun s1 => match s1 with
 | .out s1 =>
  some (true, ())
 | .ret s1 =>
  some (s1.1, ())
def r21_Ready (x : Wrld × Unit) : Option (Bool × Unit) := r21_Ready_r x.1
def r21_Ready_sm : Sum := ⟨(.cons cWrld .nil), (.cons (.d .bool) .nil), r21_Ready⟩
def r21_Ready_L0 : LoopSum := { hc := ⟨[], [1, 3], [], [], [0], [], 48⟩, h := ⟨[(1, (.pvar 0 [])), (3, (.d cI))], [(0, (.d cWrld))], [], 48⟩, xid := 0, oc := ⟨[], [], [], [], [], [], 48⟩, o := ⟨[], [], [], 48⟩, rc := ⟨[], [2], [], [], [], [], 48⟩, r := ⟨[(2, (.d .bool))], [], [], 48⟩, F := r21_Ready_l0 }
def r21_Ready_c : Ctx := ⟨[], [], [⟨8, 34, 0, 0, r21_Ready_L0⟩]⟩
theorem r21_Ready_sem : SemOf Tryz.prog 34 r21_Ready_sm := semC (c := r21_Ready_c) Tryz.func34 an an (ec (aeC [true, false, true, false, false] r21_Ready_s0 Tryz.func34) an) 8
def w21_fits_r (a0 : Wrld) (a1 : Int) : Option (Bool × Unit) :=
 (r20_Few (a0, ())).bind fun y1 =>
 bif y1.1 then
  (r20_Form (a0, ())).bind fun y2 =>
  bif y2.1 then
   (r21_Ready (a0, ())).bind fun y3 =>
   bif y3.1 then
    bif decide (a1 ≥ 0) then
     some (decide (a1 < (a0.2.2.1.length : Int)), ())
    else
    some (false, ())
   else
   some (false, ())
  else
  some (false, ())
 else
 some (false, ())
def w21_fits (x : Wrld × Int × Unit) : Option (Bool × Unit) := w21_fits_r x.1 x.2.1
def w21_fits_sm : Sum := ⟨(.cons cWrld (.cons cI .nil)), (.cons (.d .bool) .nil), w21_fits⟩
def w21_fits_c : Ctx := ⟨[(18, r20_Few_sm), (27, r20_Form_sm), (34, r21_Ready_sm)], [], []⟩
theorem w21_fits_sem : SemOf Tryz.prog 11 w21_fits_sm := semC (c := w21_fits_c) Tryz.func11 (sc r20_Few_sem (sc r20_Form_sem (sc r21_Ready_sem an))) an an 8
abbrev r18_Copied_h0 : U := (.cons (.sl cMut) (.cons cI (.cons (.sl cMut) .nil)))
abbrev r18_Copied_o0 : U := (.cons (.sl cMut) .nil)
abbrev r18_Copied_e0 : U := .nil
def r18_Copied_s0r (v0 : List Mut) (v4 : Int) (r48 : List Mut) : Option (SRes r18_Copied_h0 r18_Copied_o0 r18_Copied_e0) :=
 bif decide (v4 < (v0.length : Int)) then
  bif decide (0 ≤ v4) then
   bif decide (v4 < (v0.length : Int)) then
    bif decide (0 ≤ v4) then
     bif decide (v4 < (v0.length : Int)) then
      bif decide ((0 + (v0.getD v4.toNat ([], 0, (0, 0, 0, 0, ()), 0, (0, 0, ()), List.replicate 4 0, ())).1.length) * 16 ≤ 140737488355328) then
       bif decide ((r48.length + 1) * 120 ≤ 140737488355328) then
        some (.next (v0, wi64 (v4 + 1), r48 ++ [((v0.getD v4.toNat ([], 0, (0, 0, 0, 0, ()), 0, (0, 0, ()), List.replicate 4 0, ())).1, (v0.getD v4.toNat ([], 0, (0, 0, 0, 0, ()), 0, (0, 0, ()), List.replicate 4 0, ())).2)], ()))
       else none
      else none
     else none
    else none
   else none
  else none
 else
 some (.fin (.out (r48, ())))
def r18_Copied_s0 (x : r18_Copied_h0.T) : Option (SRes r18_Copied_h0 r18_Copied_o0 r18_Copied_e0) := r18_Copied_s0r x.1 x.2.1 x.2.2.1
def r18_Copied_l0 (x : r18_Copied_h0.T) : Option (LRes r18_Copied_o0 r18_Copied_e0) := iterL r18_Copied_s0 9223372036854775808 x
def r18_Copied_r (a0 : List Mut) : Option ((List Mut) × Unit) :=
 (r18_Copied_l0 (a0, 0, [], ())).bind fun s1 => match s1 with
 | .out s1 =>
  some (s1.1, ())
 | .ret s1 =>
  none
def r18_Copied (x : (List Mut) × Unit) : Option ((List Mut) × Unit) := r18_Copied_r x.1
def r18_Copied_sm : Sum := ⟨(.cons (.sl cMut) .nil), (.cons (.own cMut) .nil), r18_Copied⟩
def r18_Copied_L0 : LoopSum := { hc := ⟨[], [0, 3, 4], [(.tmp 3, cMut)], [], [], [], 48⟩, h := ⟨[(0, (.d (.sl cMut))), (3, (.row 48)), (4, (.d cI))], [], [(48, cMut, true)], 49⟩, xid := 0, oc := ⟨[], [3], [(.tmp 3, cMut)], [], [], [], 48⟩, o := ⟨[(3, (.row 48))], [], [(48, cMut, true)], 49⟩, rc := ⟨[], [], [], [], [48], [], 48⟩, r := ⟨[], [], [], 48⟩, F := r18_Copied_l0 }
def r18_Copied_c : Ctx := ⟨[], [], [⟨8, 35, 0, 0, r18_Copied_L0⟩]⟩
theorem r18_Copied_sem : SemOf Tryz.prog 35 r18_Copied_sm := semC (c := r18_Copied_c) Tryz.func35 an an (ec (aeC [true, true, false, true, false, false] r18_Copied_s0 Tryz.func35) an) 8
end
end Go.Proofs.YtkjpakaidjpjgaaGreatDoor.Dfn
