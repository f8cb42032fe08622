/- What functions come to. Printed by a program of this session. -/
import Derived.Test.YtdiogegolnoeoaaDoorDenF5
namespace Go.Proofs.YtdiogegolnoeoaaDoor.Den
open Go
set_option maxRecDepth 100000
set_option linter.unusedVariables false
/-! ### flotsam/flotsamlaw17.fits -/
def flotsamlaw17_fits_r (a0 : Heap) (a1 : Marker) : Option (Bool × Unit) :=
  (flotsamref07_Form (a0, ())).bind fun y1 =>
  bif y1.1 then
    bif decide ((a0.1.length : Int) ≤ 128) then
      (flotsamref17_Few (a1, ())).bind fun y2 =>
      bif y2.1 then
        (flotsamref17_Right (a0, a1, ())).bind fun y3 =>
        some (y3.1, ())
      else
      some (false, ())
    else
    some (false, ())
  else
  some (false, ())
def flotsamlaw17_fits (x : Heap × Marker × Unit) : Option (Bool × Unit) := flotsamlaw17_fits_r x.1 x.2.1
noncomputable def flotsamlaw17_fits_sm : Sum := ⟨(.cons cHeap (.cons cMarker .nil)), (.cons (.d .bool) .nil), flotsamlaw17_fits⟩
noncomputable def flotsamlaw17_fits_S : List (Nat × Sum) := [(19, flotsamref17_Right_sm), (20, flotsamref07_Form_sm), (32, flotsamref17_Few_sm)]
noncomputable def flotsamlaw17_fits_fl : List (Nat × Func) := []
noncomputable def flotsamlaw17_fits_es : List AE := []
theorem flotsamlaw17_fits_den : (fun x => denFun TEv (look1 flotsamlaw17_fits_S) (look1 flotsamlaw17_fits_fl) (annOf flotsamlaw17_fits_es) 8 9 Go.Proofs.Tryd.f9 flotsamlaw17_fits_sm.a flotsamlaw17_fits_sm.r x) = flotsamlaw17_fits_sm.F := by kernel_rfl
theorem flotsamlaw17_fits_sem : SemOf Go.Proofs.Tryd.prog 9 flotsamlaw17_fits_sm :=
  semMk teOk (sl := flotsamlaw17_fits_S) (all_cons flotsamref17_Right_sem (all_cons flotsamref07_Form_sem (all_cons flotsamref17_Few_sem all_nil))) (fl := flotsamlaw17_fits_fl) (all_nil) (es := flotsamlaw17_fits_es) Go.Proofs.Tryd.func9 (by kernel_rfl) rfl (rng_none (by kernel_rfl) (by kernel_rfl)) (all_nil) rfl flotsamlaw17_fits_den

/-! ### flotsam/flotsamref08.Apart -/
def flotsamref08_Apart_s0r (v4 : Int) (c0 : Heap) (r48 : List Int) : Option (SRes (.cons cI (.cons cHeap (.cons (.sl cI) .nil))) .nil (.cons .bool .nil)) :=
  bif decide (v4 < (r48.length : Int)) then
    bif decide (0 ≤ v4) then
      bif decide (v4 < (r48.length : Int)) then
        (flotsamref08_Get (c0, r48.getD v4.toNat 0, ())).bind fun y2 =>
        bif decide (0 ≤ v4) then
          bif decide (v4 < (r48.length : Int)) then
            bif decide (0 ≤ (wi64 ((r48.getD v4.toNat 0).tdiv 32))) then
              bif decide ((wi64 ((r48.getD v4.toNat 0).tdiv 32)) < (c0.2.1.length : Int)) then
                bif y2.1.2.2.1 != (c0.2.1.getD (wi64 ((r48.getD v4.toNat 0).tdiv 32)).toNat (0, 0, 0, ())).2.1 then
                  some (.fin (.ret (false, ())))
                else
                some (.next (wi64 (v4 + 1), c0, r48, ()))
              else none
            else none
          else none
        else none
      else none
    else none
  else
  some (.fin (.out ()))
def flotsamref08_Apart_s0 (x : Int × Heap × (List Int) × Unit) : Option (SRes (.cons cI (.cons cHeap (.cons (.sl cI) .nil))) .nil (.cons .bool .nil)) := flotsamref08_Apart_s0r x.1 x.2.1 x.2.2.1
def flotsamref08_Apart_l0 (x : Int × Heap × (List Int) × Unit) : Option (LRes .nil (.cons .bool .nil)) := iterL (h := (.cons cI (.cons cHeap (.cons (.sl cI) .nil)))) (o := .nil) (r := (.cons .bool .nil)) flotsamref08_Apart_s0 9223372036854775808 x
def flotsamref08_Apart_r (a0 : Heap) : Option (Bool × Unit) :=
  (flotsamref08_List (a0, ())).bind fun y1 =>
  (flotsamref08_Apart_l0 (0, a0, y1.1, ())).bind fun s3 => match s3 with
  | .out s3 =>
    some (true, ())
  | .ret s3 =>
    some (s3.1, ())
def flotsamref08_Apart (x : Heap × Unit) : Option (Bool × Unit) := flotsamref08_Apart_r x.1
noncomputable def flotsamref08_Apart_sm : Sum := ⟨(.cons cHeap .nil), (.cons (.d .bool) .nil), flotsamref08_Apart⟩
noncomputable def flotsamref08_Apart_L0 : LoopSum := { hc := ⟨[], [1, 3, 4], [], [], [0], [48], 96⟩, h := ⟨[(1, (.pvar 0 [])), (3, (.row 48)), (4, (.d cI))], [(0, (.d cHeap))], [(48, cI, true)], 96⟩, xid := 0, oc := ⟨[], [], [], [], [], [], 96⟩, o := ⟨[], [], [], 96⟩, rc := ⟨[], [2], [], [], [], [], 96⟩, r := ⟨[(2, (.d .bool))], [], [], 96⟩, F := flotsamref08_Apart_l0 }
noncomputable def flotsamref08_Apart_S : List (Nat × Sum) := [(15, flotsamref08_List_sm), (33, flotsamref08_Get_sm)]
noncomputable def flotsamref08_Apart_fl : List (Nat × Func) := []
noncomputable def flotsamref08_Apart_es : List AE := [⟨8, 10, 0, 0, flotsamref08_Apart_L0⟩]
theorem flotsamref08_Apart_den0 : (fun x => denStep TEv (look1 flotsamref08_Apart_S) (look1 flotsamref08_Apart_fl) (annOf flotsamref08_Apart_es) 8 10 Go.Proofs.Tryd.f10.ntmps 0 (cat (bodyOf Go.Proofs.Tryd.f10) [true, true, false, true, false, false]) flotsamref08_Apart_L0 x) = flotsamref08_Apart_s0 := by kernel_rfl
theorem flotsamref08_Apart_den : (fun x => denFun TEv (look1 flotsamref08_Apart_S) (look1 flotsamref08_Apart_fl) (annOf flotsamref08_Apart_es) 8 10 Go.Proofs.Tryd.f10 flotsamref08_Apart_sm.a flotsamref08_Apart_sm.r x) = flotsamref08_Apart_sm.F := by kernel_rfl
theorem flotsamref08_Apart_ok0 : AEok Go.Proofs.Tryd.prog TEv (look1 flotsamref08_Apart_S) (look1 flotsamref08_Apart_fl) (annOf flotsamref08_Apart_es) ⟨8, 10, 0, 0, flotsamref08_Apart_L0⟩ := aeok_of 9223372036854775808 Go.Proofs.Tryd.func10 (by kernel_rfl) flotsamref08_Apart_den0 (by kernel_rfl)
theorem flotsamref08_Apart_sem : SemOf Go.Proofs.Tryd.prog 10 flotsamref08_Apart_sm :=
  semMk teOk (sl := flotsamref08_Apart_S) (all_cons flotsamref08_List_sem (all_cons flotsamref08_Get_sem all_nil)) (fl := flotsamref08_Apart_fl) (all_nil) (es := flotsamref08_Apart_es) Go.Proofs.Tryd.func10 (by kernel_rfl) rfl (rng_none (by kernel_rfl) (by kernel_rfl)) (all_cons flotsamref08_Apart_ok0 (all_nil)) rfl flotsamref08_Apart_den

/-! ### flotsam/flotsamref15.Black -/
def flotsamref15_Black_s0r (v5 : Int) (c0 : Heap) (r64 : List Int) (r112 : List Int) : Option (SRes (.cons cI (.cons cHeap (.cons (.sl cI) (.cons (.sl cI) .nil)))) (.cons (.sl cI) .nil) .nil) :=
  bif decide (v5 < (r64.length : Int)) then
    bif decide (0 ≤ v5) then
      bif decide (v5 < (r64.length : Int)) then
        (flotsamref08_Black (c0, r64.getD v5.toNat 0, ())).bind fun y2 =>
        bif y2.1 then
          bif decide (0 ≤ v5) then
            bif decide (v5 < (r64.length : Int)) then
              bif decide ((r112.length + 1) * 8 ≤ 140737488355328) then
                some (.next (wi64 (v5 + 1), c0, r64, r112 ++ [r64.getD v5.toNat 0], ()))
              else none
            else none
          else none
        else
        some (.next (wi64 (v5 + 1), c0, r64, r112, ()))
      else none
    else none
  else
  some (.fin (.out (r112, ())))
def flotsamref15_Black_s0 (x : Int × Heap × (List Int) × (List Int) × Unit) : Option (SRes (.cons cI (.cons cHeap (.cons (.sl cI) (.cons (.sl cI) .nil)))) (.cons (.sl cI) .nil) .nil) := flotsamref15_Black_s0r x.1 x.2.1 x.2.2.1 x.2.2.2.1
def flotsamref15_Black_l0 (x : Int × Heap × (List Int) × (List Int) × Unit) : Option (LRes (.cons (.sl cI) .nil) .nil) := iterL (h := (.cons cI (.cons cHeap (.cons (.sl cI) (.cons (.sl cI) .nil))))) (o := (.cons (.sl cI) .nil)) (r := .nil) flotsamref15_Black_s0 9223372036854775808 x
def flotsamref15_Black_r (a0 : Heap) : Option ((List Int) × Unit) :=
  (flotsamref08_List (a0, ())).bind fun y1 =>
  (flotsamref15_Black_l0 (0, a0, y1.1, [], ())).bind fun s3 => match s3 with
  | .out s3 =>
    some (s3.1, ())
  | .ret s3 =>
    none
def flotsamref15_Black (x : Heap × Unit) : Option ((List Int) × Unit) := flotsamref15_Black_r x.1
noncomputable def flotsamref15_Black_sm : Sum := ⟨(.cons cHeap .nil), (.cons (.own cI) .nil), flotsamref15_Black⟩
noncomputable def flotsamref15_Black_L0 : LoopSum := { hc := ⟨[], [1, 3, 4, 5], [(.tmp 3, cI)], [], [0], [64], 112⟩, h := ⟨[(1, (.pvar 0 [])), (3, (.row 112)), (4, (.row 64)), (5, (.d cI))], [(0, (.d cHeap))], [(64, cI, true), (112, cI, true)], 113⟩, xid := 0, oc := ⟨[], [3], [(.tmp 3, cI)], [], [], [], 112⟩, o := ⟨[(3, (.row 112))], [], [(112, cI, true)], 113⟩, rc := ⟨[], [], [], [], [112], [], 112⟩, r := ⟨[], [], [], 112⟩, F := flotsamref15_Black_l0 }
noncomputable def flotsamref15_Black_S : List (Nat × Sum) := [(15, flotsamref08_List_sm), (30, flotsamref08_Black_sm)]
noncomputable def flotsamref15_Black_fl : List (Nat × Func) := []
noncomputable def flotsamref15_Black_es : List AE := [⟨8, 11, 0, 0, flotsamref15_Black_L0⟩]
theorem flotsamref15_Black_den0 : (fun x => denStep TEv (look1 flotsamref15_Black_S) (look1 flotsamref15_Black_fl) (annOf flotsamref15_Black_es) 8 11 Go.Proofs.Tryd.f11.ntmps 0 (cat (bodyOf Go.Proofs.Tryd.f11) [true, true, true, false, true, false, false]) flotsamref15_Black_L0 x) = flotsamref15_Black_s0 := by kernel_rfl
theorem flotsamref15_Black_den : (fun x => denFun TEv (look1 flotsamref15_Black_S) (look1 flotsamref15_Black_fl) (annOf flotsamref15_Black_es) 8 11 Go.Proofs.Tryd.f11 flotsamref15_Black_sm.a flotsamref15_Black_sm.r x) = flotsamref15_Black_sm.F := by kernel_rfl
theorem flotsamref15_Black_ok0 : AEok Go.Proofs.Tryd.prog TEv (look1 flotsamref15_Black_S) (look1 flotsamref15_Black_fl) (annOf flotsamref15_Black_es) ⟨8, 11, 0, 0, flotsamref15_Black_L0⟩ := aeok_of 9223372036854775808 Go.Proofs.Tryd.func11 (by kernel_rfl) flotsamref15_Black_den0 (by kernel_rfl)
theorem flotsamref15_Black_sem : SemOf Go.Proofs.Tryd.prog 11 flotsamref15_Black_sm :=
  semMk teOk (sl := flotsamref15_Black_S) (all_cons flotsamref08_List_sem (all_cons flotsamref08_Black_sem all_nil)) (fl := flotsamref15_Black_fl) (all_nil) (es := flotsamref15_Black_es) Go.Proofs.Tryd.func11 (by kernel_rfl) rfl (rng_none (by kernel_rfl) (by kernel_rfl)) (all_cons flotsamref15_Black_ok0 (all_nil)) rfl flotsamref15_Black_den

/-! ### flotsam/flotsamref08.Refs -/
def flotsamref08_Refs_s0r (v1 : Int) (v8 : Int) (c0 : Heap) (c144 : Hdr) (r208 : List Int) : Option (SRes (.cons cI (.cons cI (.cons cHeap (.cons cHdr (.cons (.sl cI) .nil))))) (.cons (.sl cI) .nil) .nil) :=
  bif decide (v8 < c144.2.2.2.1) then
    (flotsamref08_Field (c0, v1, v8, ())).bind fun y2 =>
    bif y2.1.1 == 2 then
      bif decide ((r208.length + 1) * 8 ≤ 140737488355328) then
        some (.next (v1, wi64 (v8 + 1), c0, c144, r208 ++ [y2.1.2.1], ()))
      else none
    else
    some (.next (v1, wi64 (v8 + 1), c0, c144, r208, ()))
  else
  some (.fin (.out (r208, ())))
def flotsamref08_Refs_s0 (x : Int × Int × Heap × Hdr × (List Int) × Unit) : Option (SRes (.cons cI (.cons cI (.cons cHeap (.cons cHdr (.cons (.sl cI) .nil))))) (.cons (.sl cI) .nil) .nil) := flotsamref08_Refs_s0r x.1 x.2.1 x.2.2.1 x.2.2.2.1 x.2.2.2.2.1
def flotsamref08_Refs_l0 (x : Int × Int × Heap × Hdr × (List Int) × Unit) : Option (LRes (.cons (.sl cI) .nil) .nil) := iterL (h := (.cons cI (.cons cI (.cons cHeap (.cons cHdr (.cons (.sl cI) .nil)))))) (o := (.cons (.sl cI) .nil)) (r := .nil) flotsamref08_Refs_s0 9223372036854775808 x
def flotsamref08_Refs_r (a0 : Heap) (a1 : Int) : Option ((List Int) × Unit) :=
  (flotsamref08_Get (a0, a1, ())).bind fun y1 =>
  (flotsamref08_Refs_l0 (a1, 0, a0, y1.1, [], ())).bind fun s3 => match s3 with
  | .out s3 =>
    some (s3.1, ())
  | .ret s3 =>
    none
def flotsamref08_Refs (x : Heap × Int × Unit) : Option ((List Int) × Unit) := flotsamref08_Refs_r x.1 x.2.1
noncomputable def flotsamref08_Refs_sm : Sum := ⟨(.cons cHeap (.cons cI .nil)), (.cons (.own cI) .nil), flotsamref08_Refs⟩
noncomputable def flotsamref08_Refs_L0 : LoopSum := { hc := ⟨[], [1, 2, 5, 6, 8], [(.tmp 5, cI)], [], [0, 144], [], 208⟩, h := ⟨[(1, (.d cI)), (2, (.pvar 0 [])), (5, (.row 208)), (6, (.pvar 144 [])), (8, (.d cI))], [(0, (.d cHeap)), (144, (.d cHdr))], [(208, cI, true)], 209⟩, xid := 0, oc := ⟨[], [5], [(.tmp 5, cI)], [], [], [], 208⟩, o := ⟨[(5, (.row 208))], [], [(208, cI, true)], 209⟩, rc := ⟨[], [], [], [], [208], [], 208⟩, r := ⟨[], [], [], 208⟩, F := flotsamref08_Refs_l0 }
noncomputable def flotsamref08_Refs_S : List (Nat × Sum) := [(33, flotsamref08_Get_sm), (40, flotsamref08_Field_sm)]
noncomputable def flotsamref08_Refs_fl : List (Nat × Func) := []
noncomputable def flotsamref08_Refs_es : List AE := [⟨8, 18, 0, 0, flotsamref08_Refs_L0⟩]
theorem flotsamref08_Refs_den0 : (fun x => denStep TEv (look1 flotsamref08_Refs_S) (look1 flotsamref08_Refs_fl) (annOf flotsamref08_Refs_es) 8 18 Go.Proofs.Tryd.f18.ntmps 0 (cat (bodyOf Go.Proofs.Tryd.f18) [true, true, true, false, true, false, false]) flotsamref08_Refs_L0 x) = flotsamref08_Refs_s0 := by kernel_rfl
theorem flotsamref08_Refs_den : (fun x => denFun TEv (look1 flotsamref08_Refs_S) (look1 flotsamref08_Refs_fl) (annOf flotsamref08_Refs_es) 8 18 Go.Proofs.Tryd.f18 flotsamref08_Refs_sm.a flotsamref08_Refs_sm.r x) = flotsamref08_Refs_sm.F := by kernel_rfl
theorem flotsamref08_Refs_ok0 : AEok Go.Proofs.Tryd.prog TEv (look1 flotsamref08_Refs_S) (look1 flotsamref08_Refs_fl) (annOf flotsamref08_Refs_es) ⟨8, 18, 0, 0, flotsamref08_Refs_L0⟩ := aeok_of 9223372036854775808 Go.Proofs.Tryd.func18 (by kernel_rfl) flotsamref08_Refs_den0 (by kernel_rfl)
theorem flotsamref08_Refs_sem : SemOf Go.Proofs.Tryd.prog 18 flotsamref08_Refs_sm :=
  semMk teOk (sl := flotsamref08_Refs_S) (all_cons flotsamref08_Get_sem (all_cons flotsamref08_Field_sem all_nil)) (fl := flotsamref08_Refs_fl) (all_nil) (es := flotsamref08_Refs_es) Go.Proofs.Tryd.func18 (by kernel_rfl) rfl (rng_none (by kernel_rfl) (by kernel_rfl)) (all_cons flotsamref08_Refs_ok0 (all_nil)) rfl flotsamref08_Refs_den

/-! ### flotsam/flotsamref15.From -/
def flotsamref15_From_s0r (v1 : List Val) (v7 : Int) (v8 : Int) (c0 : Heap) (r48 : List Int) (r112 : List Bool) : Option (SRes (.cons (.sl cVal) (.cons cI (.cons cI (.cons cHeap (.cons (.sl cI) (.cons (.sl .bool) .nil)))))) (.cons (.sl cVal) (.cons cI (.cons cHeap (.cons (.sl cI) (.cons (.sl .bool) .nil))))) .nil) :=
  bif decide (v8 < (v1.length : Int)) then
    bif decide (0 ≤ v7) then
      bif decide (v7 < (r112.length : Int)) then
        bif r112.getD v7.toNat false then
          bif decide (0 ≤ v7) then
            bif decide (v7 < (r112.length : Int)) then
              some (.next (v1, v7, wi64 (v8 + 1), c0, r48, r112.set v7.toNat true, ()))
            else none
          else none
        else
        bif decide (0 ≤ v8) then
          bif decide (v8 < (v1.length : Int)) then
            bif (v1.getD v8.toNat (0, 0, ())).1 == 2 then
              bif decide (0 ≤ v8) then
                bif decide (v8 < (v1.length : Int)) then
                  bif decide (0 ≤ v7) then
                    bif decide (v7 < (r48.length : Int)) then
                      bif decide (0 ≤ v7) then
                        bif decide (v7 < (r112.length : Int)) then
                          some (.next (v1, v7, wi64 (v8 + 1), c0, r48, r112.set v7.toNat ((v1.getD v8.toNat (0, 0, ())).2.1 == (r48.getD v7.toNat 0)), ()))
                        else none
                      else none
                    else none
                  else none
                else none
              else none
            else
            bif decide (0 ≤ v7) then
              bif decide (v7 < (r112.length : Int)) then
                some (.next (v1, v7, wi64 (v8 + 1), c0, r48, r112.set v7.toNat false, ()))
              else none
            else none
          else none
        else none
      else none
    else none
  else
  some (.fin (.out (v1, v7, c0, r48, r112, ())))
def flotsamref15_From_s0 (x : (List Val) × Int × Int × Heap × (List Int) × (List Bool) × Unit) : Option (SRes (.cons (.sl cVal) (.cons cI (.cons cI (.cons cHeap (.cons (.sl cI) (.cons (.sl .bool) .nil)))))) (.cons (.sl cVal) (.cons cI (.cons cHeap (.cons (.sl cI) (.cons (.sl .bool) .nil))))) .nil) := flotsamref15_From_s0r x.1 x.2.1 x.2.2.1 x.2.2.2.1 x.2.2.2.2.1 x.2.2.2.2.2.1
def flotsamref15_From_l0 (x : (List Val) × Int × Int × Heap × (List Int) × (List Bool) × Unit) : Option (LRes (.cons (.sl cVal) (.cons cI (.cons cHeap (.cons (.sl cI) (.cons (.sl .bool) .nil))))) .nil) := iterL (h := (.cons (.sl cVal) (.cons cI (.cons cI (.cons cHeap (.cons (.sl cI) (.cons (.sl .bool) .nil))))))) (o := (.cons (.sl cVal) (.cons cI (.cons cHeap (.cons (.sl cI) (.cons (.sl .bool) .nil)))))) (r := .nil) flotsamref15_From_s0 9223372036854775808 x
def flotsamref15_From_s1r (v1 : List Val) (v7 : Int) (c0 : Heap) (r48 : List Int) (r112 : List Bool) : Option (SRes (.cons (.sl cVal) (.cons cI (.cons cHeap (.cons (.sl cI) (.cons (.sl .bool) .nil))))) (.cons cHeap (.cons (.sl cI) (.cons (.sl .bool) .nil))) .nil) :=
  bif decide (v7 < (r48.length : Int)) then
    (flotsamref15_From_l0 (v1, v7, 0, c0, r48, r112, ())).bind fun s2 => match s2 with
    | .out s2 =>
      some (.next (s2.1, wi64 (s2.2.1 + 1), s2.2.2.1, s2.2.2.2.1, s2.2.2.2.2.1, ()))
    | .ret s2 =>
      none
  else
  some (.fin (.out (c0, r48, r112, ())))
def flotsamref15_From_s1 (x : (List Val) × Int × Heap × (List Int) × (List Bool) × Unit) : Option (SRes (.cons (.sl cVal) (.cons cI (.cons cHeap (.cons (.sl cI) (.cons (.sl .bool) .nil))))) (.cons cHeap (.cons (.sl cI) (.cons (.sl .bool) .nil))) .nil) := flotsamref15_From_s1r x.1 x.2.1 x.2.2.1 x.2.2.2.1 x.2.2.2.2.1
def flotsamref15_From_l1 (x : (List Val) × Int × Heap × (List Int) × (List Bool) × Unit) : Option (LRes (.cons cHeap (.cons (.sl cI) (.cons (.sl .bool) .nil))) .nil) := iterL (h := (.cons (.sl cVal) (.cons cI (.cons cHeap (.cons (.sl cI) (.cons (.sl .bool) .nil)))))) (o := (.cons cHeap (.cons (.sl cI) (.cons (.sl .bool) .nil)))) (r := .nil) flotsamref15_From_s1 9223372036854775808 x
def flotsamref15_From_s2r (v9 : Int) (v10 : Int) (v12 : Int) (c0 : Heap) (r48 : List Int) (r112 : List Bool) (r480 : List Int) : Option (SRes (.cons cI (.cons cI (.cons cI (.cons cHeap (.cons (.sl cI) (.cons (.sl .bool) (.cons (.sl cI) .nil))))))) (.cons cI (.cons cI (.cons cHeap (.cons (.sl cI) (.cons (.sl .bool) .nil))))) .nil) :=
  bif decide (v12 < (r48.length : Int)) then
    bif decide (0 ≤ v12) then
      bif decide (v12 < (r112.length : Int)) then
        bif r112.getD v12.toNat false then
          bif decide (0 ≤ v12) then
            bif decide (v12 < (r112.length : Int)) then
              some (.next (v9, v10, wi64 (v12 + 1), c0, r48, r112.set v12.toNat true, r480, ()))
            else none
          else none
        else
        bif decide (0 ≤ v12) then
          bif decide (v12 < (r48.length : Int)) then
            (flotsamref08_In (r480, r48.getD v12.toNat 0, ())).bind fun y5 =>
            bif decide (0 ≤ v12) then
              bif decide (v12 < (r112.length : Int)) then
                some (.next (v9, v10, wi64 (v12 + 1), c0, r48, r112.set v12.toNat y5.1, r480, ()))
              else none
            else none
          else none
        else none
      else none
    else none
  else
  some (.fin (.out (v9, v10, c0, r48, r112, ())))
def flotsamref15_From_s2 (x : Int × Int × Int × Heap × (List Int) × (List Bool) × (List Int) × Unit) : Option (SRes (.cons cI (.cons cI (.cons cI (.cons cHeap (.cons (.sl cI) (.cons (.sl .bool) (.cons (.sl cI) .nil))))))) (.cons cI (.cons cI (.cons cHeap (.cons (.sl cI) (.cons (.sl .bool) .nil))))) .nil) := flotsamref15_From_s2r x.1 x.2.1 x.2.2.1 x.2.2.2.1 x.2.2.2.2.1 x.2.2.2.2.2.1 x.2.2.2.2.2.2.1
def flotsamref15_From_l2 (x : Int × Int × Int × Heap × (List Int) × (List Bool) × (List Int) × Unit) : Option (LRes (.cons cI (.cons cI (.cons cHeap (.cons (.sl cI) (.cons (.sl .bool) .nil))))) .nil) := iterL (h := (.cons cI (.cons cI (.cons cI (.cons cHeap (.cons (.sl cI) (.cons (.sl .bool) (.cons (.sl cI) .nil)))))))) (o := (.cons cI (.cons cI (.cons cHeap (.cons (.sl cI) (.cons (.sl .bool) .nil)))))) (r := .nil) flotsamref15_From_s2 9223372036854775808 x
def flotsamref15_From_s3r (v9 : Int) (v10 : Int) (c0 : Heap) (r48 : List Int) (r112 : List Bool) : Option (SRes (.cons cI (.cons cI (.cons cHeap (.cons (.sl cI) (.cons (.sl .bool) .nil))))) (.cons cI (.cons cHeap (.cons (.sl cI) (.cons (.sl .bool) .nil)))) .nil) :=
  bif decide (v10 < (r48.length : Int)) then
    bif decide (0 ≤ v10) then
      bif decide (v10 < (r112.length : Int)) then
        bif !(r112.getD v10.toNat false) then
          some (.next (v9, wi64 (v10 + 1), c0, r48, r112, ()))
        else
        bif decide (0 ≤ v10) then
          bif decide (v10 < (r48.length : Int)) then
            (flotsamref08_Refs (c0, r48.getD v10.toNat 0, ())).bind fun y4 =>
            (flotsamref15_From_l2 (v9, v10, 0, c0, r48, r112, y4.1, ())).bind fun s6 => match s6 with
            | .out s6 =>
              some (.next (s6.1, wi64 (s6.2.1 + 1), s6.2.2.1, s6.2.2.2.1, s6.2.2.2.2.1, ()))
            | .ret s6 =>
              none
          else none
        else none
      else none
    else none
  else
  some (.fin (.out (v9, c0, r48, r112, ())))
def flotsamref15_From_s3 (x : Int × Int × Heap × (List Int) × (List Bool) × Unit) : Option (SRes (.cons cI (.cons cI (.cons cHeap (.cons (.sl cI) (.cons (.sl .bool) .nil))))) (.cons cI (.cons cHeap (.cons (.sl cI) (.cons (.sl .bool) .nil)))) .nil) := flotsamref15_From_s3r x.1 x.2.1 x.2.2.1 x.2.2.2.1 x.2.2.2.2.1
def flotsamref15_From_l3 (x : Int × Int × Heap × (List Int) × (List Bool) × Unit) : Option (LRes (.cons cI (.cons cHeap (.cons (.sl cI) (.cons (.sl .bool) .nil)))) .nil) := iterL (h := (.cons cI (.cons cI (.cons cHeap (.cons (.sl cI) (.cons (.sl .bool) .nil)))))) (o := (.cons cI (.cons cHeap (.cons (.sl cI) (.cons (.sl .bool) .nil))))) (r := .nil) flotsamref15_From_s3 9223372036854775808 x
def flotsamref15_From_s4r (v9 : Int) (c0 : Heap) (r48 : List Int) (r112 : List Bool) : Option (SRes (.cons cI (.cons cHeap (.cons (.sl cI) (.cons (.sl .bool) .nil)))) (.cons (.sl cI) (.cons (.sl .bool) .nil)) .nil) :=
  bif decide (v9 < (r48.length : Int)) then
    (flotsamref15_From_l3 (v9, 0, c0, r48, r112, ())).bind fun s7 => match s7 with
    | .out s7 =>
      some (.next (wi64 (s7.1 + 1), s7.2.1, s7.2.2.1, s7.2.2.2.1, ()))
    | .ret s7 =>
      none
  else
  some (.fin (.out (r48, r112, ())))
def flotsamref15_From_s4 (x : Int × Heap × (List Int) × (List Bool) × Unit) : Option (SRes (.cons cI (.cons cHeap (.cons (.sl cI) (.cons (.sl .bool) .nil)))) (.cons (.sl cI) (.cons (.sl .bool) .nil)) .nil) := flotsamref15_From_s4r x.1 x.2.1 x.2.2.1 x.2.2.2.1
def flotsamref15_From_l4 (x : Int × Heap × (List Int) × (List Bool) × Unit) : Option (LRes (.cons (.sl cI) (.cons (.sl .bool) .nil)) .nil) := iterL (h := (.cons cI (.cons cHeap (.cons (.sl cI) (.cons (.sl .bool) .nil))))) (o := (.cons (.sl cI) (.cons (.sl .bool) .nil))) (r := .nil) flotsamref15_From_s4 9223372036854775808 x
def flotsamref15_From_s5r (v14 : Int) (r48 : List Int) (r112 : List Bool) (r208 : List Int) : Option (SRes (.cons cI (.cons (.sl cI) (.cons (.sl .bool) (.cons (.sl cI) .nil)))) (.cons (.sl cI) .nil) .nil) :=
  bif decide (v14 < (r48.length : Int)) then
    bif decide (0 ≤ v14) then
      bif decide (v14 < (r112.length : Int)) then
        bif r112.getD v14.toNat false then
          bif decide (0 ≤ v14) then
            bif decide (v14 < (r48.length : Int)) then
              bif decide ((r208.length + 1) * 8 ≤ 140737488355328) then
                some (.next (wi64 (v14 + 1), r48, r112, r208 ++ [r48.getD v14.toNat 0], ()))
              else none
            else none
          else none
        else
        some (.next (wi64 (v14 + 1), r48, r112, r208, ()))
      else none
    else none
  else
  some (.fin (.out (r208, ())))
def flotsamref15_From_s5 (x : Int × (List Int) × (List Bool) × (List Int) × Unit) : Option (SRes (.cons cI (.cons (.sl cI) (.cons (.sl .bool) (.cons (.sl cI) .nil)))) (.cons (.sl cI) .nil) .nil) := flotsamref15_From_s5r x.1 x.2.1 x.2.2.1 x.2.2.2.1
def flotsamref15_From_l5 (x : Int × (List Int) × (List Bool) × (List Int) × Unit) : Option (LRes (.cons (.sl cI) .nil) .nil) := iterL (h := (.cons cI (.cons (.sl cI) (.cons (.sl .bool) (.cons (.sl cI) .nil))))) (o := (.cons (.sl cI) .nil)) (r := .nil) flotsamref15_From_s5 9223372036854775808 x
def flotsamref15_From_r (a0 : Heap) (a1 : List Val) : Option ((List Int) × Unit) :=
  (flotsamref08_List (a0, ())).bind fun y1 =>
  bif (y1.1.length : Int) == (y1.1.length : Int) then
    bif decide (0 ≤ (y1.1.length : Int)) then
      bif decide ((y1.1.length : Int).toNat * 1 ≤ 140737488355328) then
        (flotsamref15_From_l1 (a1, 0, a0, y1.1, List.replicate (y1.1.length : Int).toNat false, ())).bind fun s3 => match s3 with
        | .out s3 =>
          (flotsamref15_From_l4 (0, s3.1, s3.2.1, s3.2.2.1, ())).bind fun s8 => match s8 with
          | .out s8 =>
            (flotsamref15_From_l5 (0, s8.1, s8.2.1, [], ())).bind fun s9 => match s9 with
            | .out s9 =>
              some (s9.1, ())
            | .ret s9 =>
              none
          | .ret s8 =>
            none
        | .ret s3 =>
          none
      else none
    else none
  else none
def flotsamref15_From (x : Heap × (List Val) × Unit) : Option ((List Int) × Unit) := flotsamref15_From_r x.1 x.2.1
noncomputable def flotsamref15_From_sm : Sum := ⟨(.cons cHeap (.cons (.sl cVal) .nil)), (.cons (.own cI) .nil), flotsamref15_From⟩
noncomputable def flotsamref15_From_L0 : LoopSum := { hc := ⟨[], [1, 2, 5, 6, 7, 8], [], [], [0], [48, 112], 240⟩, h := ⟨[(1, (.d (.sl cVal))), (2, (.pvar 0 [])), (5, (.row 48)), (6, (.row 112)), (7, (.d cI)), (8, (.d cI))], [(0, (.d cHeap))], [(48, cI, true), (112, .bool, true)], 240⟩, xid := 2, oc := ⟨[], [1, 2, 5, 6, 7], [], [], [0], [48, 112], 240⟩, o := ⟨[(1, (.d (.sl cVal))), (2, (.pvar 0 [])), (5, (.row 48)), (6, (.row 112)), (7, (.d cI))], [(0, (.d cHeap))], [(48, cI, true), (112, .bool, true)], 240⟩, rc := ⟨[], [], [], [], [240], [], 240⟩, r := ⟨[], [], [], 240⟩, F := flotsamref15_From_l0 }
noncomputable def flotsamref15_From_L1 : LoopSum := { hc := ⟨[], [1, 2, 5, 6, 7], [], [], [0], [48, 112], 160⟩, h := ⟨[(1, (.d (.sl cVal))), (2, (.pvar 0 [])), (5, (.row 48)), (6, (.row 112)), (7, (.d cI))], [(0, (.d cHeap))], [(48, cI, true), (112, .bool, true)], 160⟩, xid := 0, oc := ⟨[], [2, 5, 6], [], [], [0], [48, 112], 160⟩, o := ⟨[(2, (.pvar 0 [])), (5, (.row 48)), (6, (.row 112))], [(0, (.d cHeap))], [(48, cI, true), (112, .bool, true)], 160⟩, rc := ⟨[], [], [], [], [160], [], 160⟩, r := ⟨[], [], [], 160⟩, F := flotsamref15_From_l1 }
noncomputable def flotsamref15_From_L2 : LoopSum := { hc := ⟨[], [2, 5, 6, 9, 10, 11, 12], [], [], [0], [48, 112, 480], 528⟩, h := ⟨[(2, (.pvar 0 [])), (5, (.row 48)), (6, (.row 112)), (9, (.d cI)), (10, (.d cI)), (11, (.row 480)), (12, (.d cI))], [(0, (.d cHeap))], [(48, cI, true), (112, .bool, true), (480, cI, true)], 528⟩, xid := 8, oc := ⟨[], [2, 5, 6, 9, 10], [], [], [0], [48, 112], 528⟩, o := ⟨[(2, (.pvar 0 [])), (5, (.row 48)), (6, (.row 112)), (9, (.d cI)), (10, (.d cI))], [(0, (.d cHeap))], [(48, cI, true), (112, .bool, true)], 528⟩, rc := ⟨[], [], [], [], [528], [], 528⟩, r := ⟨[], [], [], 528⟩, F := flotsamref15_From_l2 }
noncomputable def flotsamref15_From_L3 : LoopSum := { hc := ⟨[], [2, 5, 6, 9, 10], [], [], [0], [48, 112], 256⟩, h := ⟨[(2, (.pvar 0 [])), (5, (.row 48)), (6, (.row 112)), (9, (.d cI)), (10, (.d cI))], [(0, (.d cHeap))], [(48, cI, true), (112, .bool, true)], 256⟩, xid := 6, oc := ⟨[], [2, 5, 6, 9], [], [], [0], [48, 112], 256⟩, o := ⟨[(2, (.pvar 0 [])), (5, (.row 48)), (6, (.row 112)), (9, (.d cI))], [(0, (.d cHeap))], [(48, cI, true), (112, .bool, true)], 256⟩, rc := ⟨[], [], [], [], [256], [], 256⟩, r := ⟨[], [], [], 256⟩, F := flotsamref15_From_l3 }
noncomputable def flotsamref15_From_L4 : LoopSum := { hc := ⟨[], [2, 5, 6, 9], [], [], [0], [48, 112], 176⟩, h := ⟨[(2, (.pvar 0 [])), (5, (.row 48)), (6, (.row 112)), (9, (.d cI))], [(0, (.d cHeap))], [(48, cI, true), (112, .bool, true)], 176⟩, xid := 4, oc := ⟨[], [5, 6], [], [], [], [48, 112], 176⟩, o := ⟨[(5, (.row 48)), (6, (.row 112))], [], [(48, cI, true), (112, .bool, true)], 176⟩, rc := ⟨[], [], [], [], [176], [], 176⟩, r := ⟨[], [], [], 176⟩, F := flotsamref15_From_l4 }
noncomputable def flotsamref15_From_L5 : LoopSum := { hc := ⟨[], [5, 6, 13, 14], [(.tmp 13, cI)], [], [], [48, 112], 208⟩, h := ⟨[(5, (.row 48)), (6, (.row 112)), (13, (.row 208)), (14, (.d cI))], [], [(48, cI, true), (112, .bool, true), (208, cI, true)], 209⟩, xid := 10, oc := ⟨[], [13], [(.tmp 13, cI)], [], [], [], 208⟩, o := ⟨[(13, (.row 208))], [], [(208, cI, true)], 209⟩, rc := ⟨[], [], [], [], [208], [], 208⟩, r := ⟨[], [], [], 208⟩, F := flotsamref15_From_l5 }
noncomputable def flotsamref15_From_S : List (Nat × Sum) := [(15, flotsamref08_List_sm), (17, flotsamref08_In_sm), (18, flotsamref08_Refs_sm)]
noncomputable def flotsamref15_From_fl : List (Nat × Func) := []
noncomputable def flotsamref15_From_es : List AE := [⟨8, 12, 0, 2, flotsamref15_From_L0⟩, ⟨8, 12, 0, 0, flotsamref15_From_L1⟩, ⟨8, 12, 0, 8, flotsamref15_From_L2⟩, ⟨8, 12, 0, 6, flotsamref15_From_L3⟩, ⟨8, 12, 0, 4, flotsamref15_From_L4⟩, ⟨8, 12, 0, 10, flotsamref15_From_L5⟩]
theorem flotsamref15_From_den0 : (fun x => denStep TEv (look1 flotsamref15_From_S) (look1 flotsamref15_From_fl) (annOf flotsamref15_From_es) 8 12 Go.Proofs.Tryd.f12.ntmps 0 (cat (bodyOf Go.Proofs.Tryd.f12) [true, true, true, false, true, false, false, true, false, false, true, false, false]) flotsamref15_From_L0 x) = flotsamref15_From_s0 := by kernel_rfl
theorem flotsamref15_From_den1 : (fun x => denStep TEv (look1 flotsamref15_From_S) (look1 flotsamref15_From_fl) (annOf flotsamref15_From_es) 8 12 Go.Proofs.Tryd.f12.ntmps 0 (cat (bodyOf Go.Proofs.Tryd.f12) [true, true, true, false, true, false, false]) flotsamref15_From_L1 x) = flotsamref15_From_s1 := by kernel_rfl
theorem flotsamref15_From_den2 : (fun x => denStep TEv (look1 flotsamref15_From_S) (look1 flotsamref15_From_fl) (annOf flotsamref15_From_es) 8 12 Go.Proofs.Tryd.f12.ntmps 0 (cat (bodyOf Go.Proofs.Tryd.f12) [true, true, true, true, false, true, false, false, true, false, false, true, false, false, true, false, false, true, true, true, false, false]) flotsamref15_From_L2 x) = flotsamref15_From_s2 := by kernel_rfl
theorem flotsamref15_From_den3 : (fun x => denStep TEv (look1 flotsamref15_From_S) (look1 flotsamref15_From_fl) (annOf flotsamref15_From_es) 8 12 Go.Proofs.Tryd.f12.ntmps 0 (cat (bodyOf Go.Proofs.Tryd.f12) [true, true, true, true, false, true, false, false, true, false, false, true, false, false]) flotsamref15_From_L3 x) = flotsamref15_From_s3 := by kernel_rfl
theorem flotsamref15_From_den4 : (fun x => denStep TEv (look1 flotsamref15_From_S) (look1 flotsamref15_From_fl) (annOf flotsamref15_From_es) 8 12 Go.Proofs.Tryd.f12.ntmps 0 (cat (bodyOf Go.Proofs.Tryd.f12) [true, true, true, true, false, true, false, false]) flotsamref15_From_L4 x) = flotsamref15_From_s4 := by kernel_rfl
theorem flotsamref15_From_den5 : (fun x => denStep TEv (look1 flotsamref15_From_S) (look1 flotsamref15_From_fl) (annOf flotsamref15_From_es) 8 12 Go.Proofs.Tryd.f12.ntmps 0 (cat (bodyOf Go.Proofs.Tryd.f12) [true, true, true, true, true, true, false, true, false, false]) flotsamref15_From_L5 x) = flotsamref15_From_s5 := by kernel_rfl
theorem flotsamref15_From_den : (fun x => denFun TEv (look1 flotsamref15_From_S) (look1 flotsamref15_From_fl) (annOf flotsamref15_From_es) 8 12 Go.Proofs.Tryd.f12 flotsamref15_From_sm.a flotsamref15_From_sm.r x) = flotsamref15_From_sm.F := by kernel_rfl
theorem flotsamref15_From_ok0 : AEok Go.Proofs.Tryd.prog TEv (look1 flotsamref15_From_S) (look1 flotsamref15_From_fl) (annOf flotsamref15_From_es) ⟨8, 12, 0, 2, flotsamref15_From_L0⟩ := aeok_of 9223372036854775808 Go.Proofs.Tryd.func12 (by kernel_rfl) flotsamref15_From_den0 (by kernel_rfl)
theorem flotsamref15_From_ok1 : AEok Go.Proofs.Tryd.prog TEv (look1 flotsamref15_From_S) (look1 flotsamref15_From_fl) (annOf flotsamref15_From_es) ⟨8, 12, 0, 0, flotsamref15_From_L1⟩ := aeok_of 9223372036854775808 Go.Proofs.Tryd.func12 (by kernel_rfl) flotsamref15_From_den1 (by kernel_rfl)
theorem flotsamref15_From_ok2 : AEok Go.Proofs.Tryd.prog TEv (look1 flotsamref15_From_S) (look1 flotsamref15_From_fl) (annOf flotsamref15_From_es) ⟨8, 12, 0, 8, flotsamref15_From_L2⟩ := aeok_of 9223372036854775808 Go.Proofs.Tryd.func12 (by kernel_rfl) flotsamref15_From_den2 (by kernel_rfl)
theorem flotsamref15_From_ok3 : AEok Go.Proofs.Tryd.prog TEv (look1 flotsamref15_From_S) (look1 flotsamref15_From_fl) (annOf flotsamref15_From_es) ⟨8, 12, 0, 6, flotsamref15_From_L3⟩ := aeok_of 9223372036854775808 Go.Proofs.Tryd.func12 (by kernel_rfl) flotsamref15_From_den3 (by kernel_rfl)
theorem flotsamref15_From_ok4 : AEok Go.Proofs.Tryd.prog TEv (look1 flotsamref15_From_S) (look1 flotsamref15_From_fl) (annOf flotsamref15_From_es) ⟨8, 12, 0, 4, flotsamref15_From_L4⟩ := aeok_of 9223372036854775808 Go.Proofs.Tryd.func12 (by kernel_rfl) flotsamref15_From_den4 (by kernel_rfl)
theorem flotsamref15_From_ok5 : AEok Go.Proofs.Tryd.prog TEv (look1 flotsamref15_From_S) (look1 flotsamref15_From_fl) (annOf flotsamref15_From_es) ⟨8, 12, 0, 10, flotsamref15_From_L5⟩ := aeok_of 9223372036854775808 Go.Proofs.Tryd.func12 (by kernel_rfl) flotsamref15_From_den5 (by kernel_rfl)
theorem flotsamref15_From_sem : SemOf Go.Proofs.Tryd.prog 12 flotsamref15_From_sm :=
  semMk teOk (sl := flotsamref15_From_S) (all_cons flotsamref08_List_sem (all_cons flotsamref08_In_sem (all_cons flotsamref08_Refs_sem all_nil))) (fl := flotsamref15_From_fl) (all_nil) (es := flotsamref15_From_es) Go.Proofs.Tryd.func12 (by kernel_rfl) rfl (rng_none (by kernel_rfl) (by kernel_rfl)) (all_cons flotsamref15_From_ok0 (all_cons flotsamref15_From_ok1 (all_cons flotsamref15_From_ok2 (all_cons flotsamref15_From_ok3 (all_cons flotsamref15_From_ok4 (all_cons flotsamref15_From_ok5 (all_nil))))))) rfl flotsamref15_From_den

/-! ### flotsam/flotsamref17.Bound -/
def flotsamref17_Bound_s0r (v5 : Int) (v6 : Int) (v7 : Int) (c16 : Marker) : Option (SRes (.cons cI (.cons cI (.cons cI (.cons cMarker .nil)))) (.cons cI (.cons cI (.cons cMarker .nil))) .nil) :=
  bif decide (v7 < (c16.2.1.length : Int)) then
    bif decide (0 ≤ v7) then
      bif decide (v7 < (c16.2.1.length : Int)) then
        some (.next (v5, wi64 (v6 + ((c16.2.1.getD v7.toNat (0, [], ())).2.1.length : Int)), wi64 (v7 + 1), c16, ()))
      else none
    else none
  else
  some (.fin (.out (v5, v6, c16, ())))
def flotsamref17_Bound_s0 (x : Int × Int × Int × Marker × Unit) : Option (SRes (.cons cI (.cons cI (.cons cI (.cons cMarker .nil)))) (.cons cI (.cons cI (.cons cMarker .nil))) .nil) := flotsamref17_Bound_s0r x.1 x.2.1 x.2.2.1 x.2.2.2.1
def flotsamref17_Bound_l0 (x : Int × Int × Int × Marker × Unit) : Option (LRes (.cons cI (.cons cI (.cons cMarker .nil))) .nil) := iterL (h := (.cons cI (.cons cI (.cons cI (.cons cMarker .nil))))) (o := (.cons cI (.cons cI (.cons cMarker .nil)))) (r := .nil) flotsamref17_Bound_s0 9223372036854775808 x
def flotsamref17_Bound_r (a0 : Heap) (a1 : Marker) : Option (Int × Unit) :=
  (flotsamref08_List (a0, ())).bind fun y1 =>
  (flotsamref17_Bound_l0 ((y1.1.length : Int), (a1.1.2.1.length : Int), 0, a1, ())).bind fun s2 => match s2 with
  | .out s2 =>
    some (wi64 ((wi64 ((wi64 ((wi64 ((wi64 (s2.1 + 3)) * (wi64 ((wi64 (17 * s2.1)) + 8)))) + (s2.2.2.1.2.2.1.length : Int))) + (wi64 (17 * s2.2.1)))) + 20), ())
  | .ret s2 =>
    none
def flotsamref17_Bound (x : Heap × Marker × Unit) : Option (Int × Unit) := flotsamref17_Bound_r x.1 x.2.1
noncomputable def flotsamref17_Bound_sm : Sum := ⟨(.cons cHeap (.cons cMarker .nil)), (.cons (.d cI) .nil), flotsamref17_Bound⟩
noncomputable def flotsamref17_Bound_L0 : LoopSum := { hc := ⟨[], [3, 5, 6, 7], [], [], [16], [], 208⟩, h := ⟨[(3, (.pvar 16 [])), (5, (.d cI)), (6, (.d cI)), (7, (.d cI))], [(16, (.d cMarker))], [], 208⟩, xid := 0, oc := ⟨[], [3, 5, 6], [], [], [16], [], 208⟩, o := ⟨[(3, (.pvar 16 [])), (5, (.d cI)), (6, (.d cI))], [(16, (.d cMarker))], [], 208⟩, rc := ⟨[], [], [], [], [208], [], 208⟩, r := ⟨[], [], [], 208⟩, F := flotsamref17_Bound_l0 }
noncomputable def flotsamref17_Bound_S : List (Nat × Sum) := [(15, flotsamref08_List_sm)]
noncomputable def flotsamref17_Bound_fl : List (Nat × Func) := []
noncomputable def flotsamref17_Bound_es : List AE := [⟨8, 13, 0, 0, flotsamref17_Bound_L0⟩]
theorem flotsamref17_Bound_den0 : (fun x => denStep TEv (look1 flotsamref17_Bound_S) (look1 flotsamref17_Bound_fl) (annOf flotsamref17_Bound_es) 8 13 Go.Proofs.Tryd.f13.ntmps 0 (cat (bodyOf Go.Proofs.Tryd.f13) [true, true, true, false, true, false, false]) flotsamref17_Bound_L0 x) = flotsamref17_Bound_s0 := by kernel_rfl
theorem flotsamref17_Bound_den : (fun x => denFun TEv (look1 flotsamref17_Bound_S) (look1 flotsamref17_Bound_fl) (annOf flotsamref17_Bound_es) 8 13 Go.Proofs.Tryd.f13 flotsamref17_Bound_sm.a flotsamref17_Bound_sm.r x) = flotsamref17_Bound_sm.F := by kernel_rfl
theorem flotsamref17_Bound_ok0 : AEok Go.Proofs.Tryd.prog TEv (look1 flotsamref17_Bound_S) (look1 flotsamref17_Bound_fl) (annOf flotsamref17_Bound_es) ⟨8, 13, 0, 0, flotsamref17_Bound_L0⟩ := aeok_of 9223372036854775808 Go.Proofs.Tryd.func13 (by kernel_rfl) flotsamref17_Bound_den0 (by kernel_rfl)
theorem flotsamref17_Bound_sem : SemOf Go.Proofs.Tryd.prog 13 flotsamref17_Bound_sm :=
  semMk teOk (sl := flotsamref17_Bound_S) (all_cons flotsamref08_List_sem all_nil) (fl := flotsamref17_Bound_fl) (all_nil) (es := flotsamref17_Bound_es) Go.Proofs.Tryd.func13 (by kernel_rfl) rfl (rng_none (by kernel_rfl) (by kernel_rfl)) (all_cons flotsamref17_Bound_ok0 (all_nil)) rfl flotsamref17_Bound_den

/-! ### flotsam/flotsamlaw17.MarkEnds -/
def flotsamlaw17_MarkEnds_s0r (v7 : Int) (c0 : Heap) (c16 : Marker) (r352 : List Int) (r400 : List Val) : Option (SRes (.cons cI (.cons cHeap (.cons cMarker (.cons (.sl cI) (.cons (.sl cVal) .nil))))) (.cons cHeap (.cons cMarker (.cons (.sl cI) (.cons (.sl cVal) .nil)))) .nil) :=
  bif decide (v7 < (r352.length : Int)) then
    bif decide (0 ≤ v7) then
      bif decide (v7 < (r352.length : Int)) then
        bif decide ((r400.length + 1) * 16 ≤ 140737488355328) then
          some (.next (wi64 (v7 + 1), c0, c16, r352, r400 ++ [(2, r352.getD v7.toNat 0, ())], ()))
        else none
      else none
    else none
  else
  some (.fin (.out (c0, c16, r352, r400, ())))
def flotsamlaw17_MarkEnds_s0 (x : Int × Heap × Marker × (List Int) × (List Val) × Unit) : Option (SRes (.cons cI (.cons cHeap (.cons cMarker (.cons (.sl cI) (.cons (.sl cVal) .nil))))) (.cons cHeap (.cons cMarker (.cons (.sl cI) (.cons (.sl cVal) .nil)))) .nil) := flotsamlaw17_MarkEnds_s0r x.1 x.2.1 x.2.2.1 x.2.2.2.1 x.2.2.2.2.1
def flotsamlaw17_MarkEnds_l0 (x : Int × Heap × Marker × (List Int) × (List Val) × Unit) : Option (LRes (.cons cHeap (.cons cMarker (.cons (.sl cI) (.cons (.sl cVal) .nil)))) .nil) := iterL (h := (.cons cI (.cons cHeap (.cons cMarker (.cons (.sl cI) (.cons (.sl cVal) .nil)))))) (o := (.cons cHeap (.cons cMarker (.cons (.sl cI) (.cons (.sl cVal) .nil))))) (r := .nil) flotsamlaw17_MarkEnds_s0 9223372036854775808 x
def flotsamlaw17_MarkEnds_s1r (v8 : Int) (c0 : Heap) (c16 : Marker) (r352 : List Int) (r577 : List Val) : Option (SRes (.cons cI (.cons cHeap (.cons cMarker (.cons (.sl cI) (.cons (.sl cVal) .nil))))) (.cons cHeap (.cons cMarker (.cons (.sl cI) (.cons (.sl cVal) .nil)))) .nil) :=
  bif decide (v8 < (c16.1.2.1.length : Int)) then
    bif decide (0 ≤ v8) then
      bif decide (v8 < (c16.1.2.1.length : Int)) then
        bif decide ((r577.length + 1) * 16 ≤ 140737488355328) then
          some (.next (wi64 (v8 + 1), c0, c16, r352, r577 ++ [(2, c16.1.2.1.getD v8.toNat 0, ())], ()))
        else none
      else none
    else none
  else
  some (.fin (.out (c0, c16, r352, r577, ())))
def flotsamlaw17_MarkEnds_s1 (x : Int × Heap × Marker × (List Int) × (List Val) × Unit) : Option (SRes (.cons cI (.cons cHeap (.cons cMarker (.cons (.sl cI) (.cons (.sl cVal) .nil))))) (.cons cHeap (.cons cMarker (.cons (.sl cI) (.cons (.sl cVal) .nil)))) .nil) := flotsamlaw17_MarkEnds_s1r x.1 x.2.1 x.2.2.1 x.2.2.2.1 x.2.2.2.2.1
def flotsamlaw17_MarkEnds_l1 (x : Int × Heap × Marker × (List Int) × (List Val) × Unit) : Option (LRes (.cons cHeap (.cons cMarker (.cons (.sl cI) (.cons (.sl cVal) .nil)))) .nil) := iterL (h := (.cons cI (.cons cHeap (.cons cMarker (.cons (.sl cI) (.cons (.sl cVal) .nil)))))) (o := (.cons cHeap (.cons cMarker (.cons (.sl cI) (.cons (.sl cVal) .nil))))) (r := .nil) flotsamlaw17_MarkEnds_s1 9223372036854775808 x
def flotsamlaw17_MarkEnds_s2r (v9 : Int) (v10 : Int) (c0 : Heap) (c16 : Marker) (r352 : List Int) (r691 : List Val) : Option (SRes (.cons cI (.cons cI (.cons cHeap (.cons cMarker (.cons (.sl cI) (.cons (.sl cVal) .nil)))))) (.cons cI (.cons cHeap (.cons cMarker (.cons (.sl cI) (.cons (.sl cVal) .nil))))) .nil) :=
  bif decide (0 ≤ v9) then
    bif decide (v9 < (c16.2.1.length : Int)) then
      bif decide (v10 < ((c16.2.1.getD v9.toNat (0, [], ())).2.1.length : Int)) then
        bif decide (0 ≤ v9) then
          bif decide (v9 < (c16.2.1.length : Int)) then
            bif decide (0 ≤ v10) then
              bif decide (v10 < ((c16.2.1.getD v9.toNat (0, [], ())).2.1.length : Int)) then
                bif decide ((r691.length + 1) * 16 ≤ 140737488355328) then
                  some (.next (v9, wi64 (v10 + 1), c0, c16, r352, r691 ++ [(2, (c16.2.1.getD v9.toNat (0, [], ())).2.1.getD v10.toNat 0, ())], ()))
                else none
              else none
            else none
          else none
        else none
      else
      some (.fin (.out (v9, c0, c16, r352, r691, ())))
    else none
  else none
def flotsamlaw17_MarkEnds_s2 (x : Int × Int × Heap × Marker × (List Int) × (List Val) × Unit) : Option (SRes (.cons cI (.cons cI (.cons cHeap (.cons cMarker (.cons (.sl cI) (.cons (.sl cVal) .nil)))))) (.cons cI (.cons cHeap (.cons cMarker (.cons (.sl cI) (.cons (.sl cVal) .nil))))) .nil) := flotsamlaw17_MarkEnds_s2r x.1 x.2.1 x.2.2.1 x.2.2.2.1 x.2.2.2.2.1 x.2.2.2.2.2.1
def flotsamlaw17_MarkEnds_l2 (x : Int × Int × Heap × Marker × (List Int) × (List Val) × Unit) : Option (LRes (.cons cI (.cons cHeap (.cons cMarker (.cons (.sl cI) (.cons (.sl cVal) .nil))))) .nil) := iterL (h := (.cons cI (.cons cI (.cons cHeap (.cons cMarker (.cons (.sl cI) (.cons (.sl cVal) .nil))))))) (o := (.cons cI (.cons cHeap (.cons cMarker (.cons (.sl cI) (.cons (.sl cVal) .nil)))))) (r := .nil) flotsamlaw17_MarkEnds_s2 9223372036854775808 x
def flotsamlaw17_MarkEnds_s3r (v9 : Int) (c0 : Heap) (c16 : Marker) (r352 : List Int) (r594 : List Val) : Option (SRes (.cons cI (.cons cHeap (.cons cMarker (.cons (.sl cI) (.cons (.sl cVal) .nil))))) (.cons cHeap (.cons cMarker (.cons (.sl cI) (.cons (.sl cVal) .nil)))) .nil) :=
  bif decide (v9 < (c16.2.1.length : Int)) then
    (flotsamlaw17_MarkEnds_l2 (v9, 0, c0, c16, r352, r594, ())).bind fun s10 => match s10 with
    | .out s10 =>
      some (.next (wi64 (s10.1 + 1), s10.2.1, s10.2.2.1, s10.2.2.2.1, s10.2.2.2.2.1, ()))
    | .ret s10 =>
      none
  else
  some (.fin (.out (c0, c16, r352, r594, ())))
def flotsamlaw17_MarkEnds_s3 (x : Int × Heap × Marker × (List Int) × (List Val) × Unit) : Option (SRes (.cons cI (.cons cHeap (.cons cMarker (.cons (.sl cI) (.cons (.sl cVal) .nil))))) (.cons cHeap (.cons cMarker (.cons (.sl cI) (.cons (.sl cVal) .nil)))) .nil) := flotsamlaw17_MarkEnds_s3r x.1 x.2.1 x.2.2.1 x.2.2.2.1 x.2.2.2.2.1
def flotsamlaw17_MarkEnds_l3 (x : Int × Heap × Marker × (List Int) × (List Val) × Unit) : Option (LRes (.cons cHeap (.cons cMarker (.cons (.sl cI) (.cons (.sl cVal) .nil)))) .nil) := iterL (h := (.cons cI (.cons cHeap (.cons cMarker (.cons (.sl cI) (.cons (.sl cVal) .nil)))))) (o := (.cons cHeap (.cons cMarker (.cons (.sl cI) (.cons (.sl cVal) .nil))))) (r := .nil) flotsamlaw17_MarkEnds_s3 9223372036854775808 x
def flotsamlaw17_MarkEnds_s4r (v20 : Int) (c0 : Heap) (c739 : Heap) (r352 : List Int) (r627 : List Int) (r1059 : List Int) (r1107 : List Int) : Option (SRes (.cons cI (.cons cHeap (.cons cHeap (.cons (.sl cI) (.cons (.sl cI) (.cons (.sl cI) (.cons (.sl cI) .nil))))))) .nil (.cons .bool .nil)) :=
  bif decide (v20 < (r1107.length : Int)) then
    bif decide (0 ≤ v20) then
      bif decide (v20 < (r1107.length : Int)) then
        (flotsamref08_In (r352, r1107.getD v20.toNat 0, ())).bind fun y19 =>
        bif y19.1 then
          bif decide (0 ≤ v20) then
            bif decide (v20 < (r1107.length : Int)) then
              (flotsamref08_In (r1059, r1107.getD v20.toNat 0, ())).bind fun y20 =>
              bif !y20.1 then
                some (.fin (.ret (false, ())))
              else
              bif decide (0 ≤ v20) then
                bif decide (v20 < (r1107.length : Int)) then
                  (flotsamref08_In (r1059, r1107.getD v20.toNat 0, ())).bind fun y21 =>
                  bif y21.1 then
                    bif decide (0 ≤ v20) then
                      bif decide (v20 < (r1107.length : Int)) then
                        (flotsamref08_In (r627, r1107.getD v20.toNat 0, ())).bind fun y22 =>
                        bif !y22.1 then
                          some (.fin (.ret (false, ())))
                        else
                        bif decide (0 ≤ v20) then
                          bif decide (v20 < (r1107.length : Int)) then
                            (flotsamref08_Refs (c0, r1107.getD v20.toNat 0, ())).bind fun y23 =>
                            bif decide (0 ≤ v20) then
                              bif decide (v20 < (r1107.length : Int)) then
                                (flotsamref08_Refs (c739, r1107.getD v20.toNat 0, ())).bind fun y24 =>
                                (flotsamref08_Ints (y23.1, y24.1, ())).bind fun y25 =>
                                bif !y25.1 then
                                  some (.fin (.ret (false, ())))
                                else
                                some (.next (wi64 (v20 + 1), c0, c739, r352, r627, r1059, r1107, ()))
                              else none
                            else none
                          else none
                        else none
                      else none
                    else none
                  else
                  bif decide (0 ≤ v20) then
                    bif decide (v20 < (r1107.length : Int)) then
                      (flotsamref08_Refs (c0, r1107.getD v20.toNat 0, ())).bind fun y26 =>
                      bif decide (0 ≤ v20) then
                        bif decide (v20 < (r1107.length : Int)) then
                          (flotsamref08_Refs (c739, r1107.getD v20.toNat 0, ())).bind fun y27 =>
                          (flotsamref08_Ints (y26.1, y27.1, ())).bind fun y28 =>
                          bif !y28.1 then
                            some (.fin (.ret (false, ())))
                          else
                          some (.next (wi64 (v20 + 1), c0, c739, r352, r627, r1059, r1107, ()))
                        else none
                      else none
                    else none
                  else none
                else none
              else none
            else none
          else none
        else
        bif decide (0 ≤ v20) then
          bif decide (v20 < (r1107.length : Int)) then
            (flotsamref08_In (r1059, r1107.getD v20.toNat 0, ())).bind fun y29 =>
            bif y29.1 then
              bif decide (0 ≤ v20) then
                bif decide (v20 < (r1107.length : Int)) then
                  (flotsamref08_In (r627, r1107.getD v20.toNat 0, ())).bind fun y30 =>
                  bif !y30.1 then
                    some (.fin (.ret (false, ())))
                  else
                  bif decide (0 ≤ v20) then
                    bif decide (v20 < (r1107.length : Int)) then
                      (flotsamref08_Refs (c0, r1107.getD v20.toNat 0, ())).bind fun y31 =>
                      bif decide (0 ≤ v20) then
                        bif decide (v20 < (r1107.length : Int)) then
                          (flotsamref08_Refs (c739, r1107.getD v20.toNat 0, ())).bind fun y32 =>
                          (flotsamref08_Ints (y31.1, y32.1, ())).bind fun y33 =>
                          bif !y33.1 then
                            some (.fin (.ret (false, ())))
                          else
                          some (.next (wi64 (v20 + 1), c0, c739, r352, r627, r1059, r1107, ()))
                        else none
                      else none
                    else none
                  else none
                else none
              else none
            else
            bif decide (0 ≤ v20) then
              bif decide (v20 < (r1107.length : Int)) then
                (flotsamref08_Refs (c0, r1107.getD v20.toNat 0, ())).bind fun y34 =>
                bif decide (0 ≤ v20) then
                  bif decide (v20 < (r1107.length : Int)) then
                    (flotsamref08_Refs (c739, r1107.getD v20.toNat 0, ())).bind fun y35 =>
                    (flotsamref08_Ints (y34.1, y35.1, ())).bind fun y36 =>
                    bif !y36.1 then
                      some (.fin (.ret (false, ())))
                    else
                    some (.next (wi64 (v20 + 1), c0, c739, r352, r627, r1059, r1107, ()))
                  else none
                else none
              else none
            else none
          else none
        else none
      else none
    else none
  else
  some (.fin (.out ()))
def flotsamlaw17_MarkEnds_s4 (x : Int × Heap × Heap × (List Int) × (List Int) × (List Int) × (List Int) × Unit) : Option (SRes (.cons cI (.cons cHeap (.cons cHeap (.cons (.sl cI) (.cons (.sl cI) (.cons (.sl cI) (.cons (.sl cI) .nil))))))) .nil (.cons .bool .nil)) := flotsamlaw17_MarkEnds_s4r x.1 x.2.1 x.2.2.1 x.2.2.2.1 x.2.2.2.2.1 x.2.2.2.2.2.1 x.2.2.2.2.2.2.1
def flotsamlaw17_MarkEnds_l4 (x : Int × Heap × Heap × (List Int) × (List Int) × (List Int) × (List Int) × Unit) : Option (LRes .nil (.cons .bool .nil)) := iterL (h := (.cons cI (.cons cHeap (.cons cHeap (.cons (.sl cI) (.cons (.sl cI) (.cons (.sl cI) (.cons (.sl cI) .nil)))))))) (o := .nil) (r := (.cons .bool .nil)) flotsamlaw17_MarkEnds_s4 9223372036854775808 x
def flotsamlaw17_MarkEnds_s5r (v12 : Int) (v14 : Int) (c0 : Heap) (c16 : Marker) (c739 : Heap) (r352 : List Int) (r627 : List Int) : Option (SRes (.cons cI (.cons cI (.cons cHeap (.cons cMarker (.cons cHeap (.cons (.sl cI) (.cons (.sl cI) .nil))))))) .nil (.cons .bool .nil)) :=
  bif decide (v14 ≤ v12) then
    (mark_Step (c739, c16, ())).bind fun y14 =>
    bif y14.2.2.1 then
      (flotsamref15_Black (c739, ())).bind fun y15 =>
      (flotsamref08_List (c0, ())).bind fun y16 =>
      (flotsamref08_List (c739, ())).bind fun y17 =>
      (flotsamref08_Ints (y16.1, y17.1, ())).bind fun y18 =>
      bif !y18.1 then
        some (.fin (.ret (false, ())))
      else
      (flotsamlaw17_MarkEnds_l4 (0, c0, c739, r352, r627, y15.1, y16.1, ())).bind fun s37 => match s37 with
      | .out s37 =>
        some (.fin (.ret (true, ())))
      | .ret s37 =>
        some (.fin (.ret (s37.1, ())))
    else
    (flotsamref17_Right (y14.1, y14.2.1, ())).bind fun y38 =>
    bif !y38.1 then
      some (.fin (.ret (false, ())))
    else
    some (.next (v12, wi64 (v14 + 1), c0, y14.2.1, y14.1, r352, r627, ()))
  else
  some (.fin (.out ()))
def flotsamlaw17_MarkEnds_s5 (x : Int × Int × Heap × Marker × Heap × (List Int) × (List Int) × Unit) : Option (SRes (.cons cI (.cons cI (.cons cHeap (.cons cMarker (.cons cHeap (.cons (.sl cI) (.cons (.sl cI) .nil))))))) .nil (.cons .bool .nil)) := flotsamlaw17_MarkEnds_s5r x.1 x.2.1 x.2.2.1 x.2.2.2.1 x.2.2.2.2.1 x.2.2.2.2.2.1 x.2.2.2.2.2.2.1
def flotsamlaw17_MarkEnds_l5 (x : Int × Int × Heap × Marker × Heap × (List Int) × (List Int) × Unit) : Option (LRes .nil (.cons .bool .nil)) := iterL (h := (.cons cI (.cons cI (.cons cHeap (.cons cMarker (.cons cHeap (.cons (.sl cI) (.cons (.sl cI) .nil)))))))) (o := .nil) (r := (.cons .bool .nil)) flotsamlaw17_MarkEnds_s5 9223372036854775808 x
def flotsamlaw17_MarkEnds_r (a0 : Heap) (a1 : Marker) : Option (Bool × Unit) :=
  (flotsamlaw17_awake ()).bind fun y1 =>
  bif !y1.1 then
    (flotsamlaw17_awake ()).bind fun y2 =>
    some (y2.1, ())
  else
  (flotsamlaw17_fits (a0, a1, ())).bind fun y3 =>
  bif !y3.1 then
    (flotsamlaw17_awake ()).bind fun y4 =>
    some (y4.1, ())
  else
  (flotsamref08_Apart (a0, ())).bind fun y5 =>
  bif !y5.1 then
    (flotsamlaw17_awake ()).bind fun y6 =>
    some (y6.1, ())
  else
  bif decide ((0 + a1.2.2.1.length) * 16 ≤ 140737488355328) then
    (flotsamref15_Black (a0, ())).bind fun y7 =>
    (flotsamlaw17_MarkEnds_l0 (0, a0, a1, y7.1, a1.2.2.1, ())).bind fun s8 => match s8 with
    | .out s8 =>
      bif decide (s8.2.1.2.2.2.1 ≥ 0) then
        bif decide ((s8.2.2.2.1.length + 1) * 16 ≤ 140737488355328) then
          (flotsamlaw17_MarkEnds_l1 (0, s8.1, s8.2.1, s8.2.2.1, s8.2.2.2.1 ++ [(2, s8.2.1.2.2.2.1, ())], ())).bind fun s9 => match s9 with
          | .out s9 =>
            (flotsamlaw17_MarkEnds_l3 (0, s9.1, s9.2.1, s9.2.2.1, s9.2.2.2.1, ())).bind fun s11 => match s11 with
            | .out s11 =>
              (flotsamref15_From (s11.1, s11.2.2.2.1, ())).bind fun y12 =>
              (flotsamref17_Bound (s11.1, s11.2.1, ())).bind fun y13 =>
              (flotsamlaw17_MarkEnds_l5 (y13.1, 0, s11.1, s11.2.1, s11.1, s11.2.2.1, y12.1, ())).bind fun s39 => match s39 with
              | .out s39 =>
                some (false, ())
              | .ret s39 =>
                some (s39.1, ())
            | .ret s11 =>
              none
          | .ret s9 =>
            none
        else none
      else
      (flotsamlaw17_MarkEnds_l1 (0, s8.1, s8.2.1, s8.2.2.1, s8.2.2.2.1, ())).bind fun s40 => match s40 with
      | .out s40 =>
        (flotsamlaw17_MarkEnds_l3 (0, s40.1, s40.2.1, s40.2.2.1, s40.2.2.2.1, ())).bind fun s41 => match s41 with
        | .out s41 =>
          (flotsamref15_From (s41.1, s41.2.2.2.1, ())).bind fun y42 =>
          (flotsamref17_Bound (s41.1, s41.2.1, ())).bind fun y43 =>
          (flotsamlaw17_MarkEnds_l5 (y43.1, 0, s41.1, s41.2.1, s41.1, s41.2.2.1, y42.1, ())).bind fun s44 => match s44 with
          | .out s44 =>
            some (false, ())
          | .ret s44 =>
            some (s44.1, ())
        | .ret s41 =>
          none
      | .ret s40 =>
        none
    | .ret s8 =>
      none
  else none
def flotsamlaw17_MarkEnds (x : Heap × Marker × Unit) : Option (Bool × Unit) := flotsamlaw17_MarkEnds_r x.1 x.2.1
noncomputable def flotsamlaw17_MarkEnds_sm : Sum := ⟨(.cons cHeap (.cons cMarker .nil)), (.cons (.d .bool) .nil), flotsamlaw17_MarkEnds⟩
noncomputable def flotsamlaw17_MarkEnds_L0 : LoopSum := { hc := ⟨[], [2, 3, 5, 6, 7], [(.tmp 5, cVal)], [], [0, 16], [352], 400⟩, h := ⟨[(2, (.pvar 0 [])), (3, (.pvar 16 [])), (5, (.row 400)), (6, (.row 352)), (7, (.d cI))], [(0, (.d cHeap)), (16, (.d cMarker))], [(352, cI, true), (400, cVal, true)], 401⟩, xid := 0, oc := ⟨[], [2, 3, 5, 6], [(.tmp 5, cVal)], [], [0, 16], [352], 400⟩, o := ⟨[(2, (.pvar 0 [])), (3, (.pvar 16 [])), (5, (.row 400)), (6, (.row 352))], [(0, (.d cHeap)), (16, (.d cMarker))], [(352, cI, true), (400, cVal, true)], 401⟩, rc := ⟨[], [], [], [], [400], [], 400⟩, r := ⟨[], [], [], 400⟩, F := flotsamlaw17_MarkEnds_l0 }
noncomputable def flotsamlaw17_MarkEnds_L1 : LoopSum := { hc := ⟨[], [2, 3, 5, 6, 8], [(.tmp 5, cVal)], [], [0, 16], [352], 577⟩, h := ⟨[(2, (.pvar 0 [])), (3, (.pvar 16 [])), (5, (.row 577)), (6, (.row 352)), (8, (.d cI))], [(0, (.d cHeap)), (16, (.d cMarker))], [(352, cI, true), (577, cVal, true)], 578⟩, xid := 2, oc := ⟨[], [2, 3, 5, 6], [(.tmp 5, cVal)], [], [0, 16], [352], 577⟩, o := ⟨[(2, (.pvar 0 [])), (3, (.pvar 16 [])), (5, (.row 577)), (6, (.row 352))], [(0, (.d cHeap)), (16, (.d cMarker))], [(352, cI, true), (577, cVal, true)], 578⟩, rc := ⟨[], [], [], [], [577], [], 577⟩, r := ⟨[], [], [], 577⟩, F := flotsamlaw17_MarkEnds_l1 }
noncomputable def flotsamlaw17_MarkEnds_L2 : LoopSum := { hc := ⟨[], [2, 3, 5, 6, 9, 10], [(.tmp 5, cVal)], [], [0, 16], [352], 691⟩, h := ⟨[(2, (.pvar 0 [])), (3, (.pvar 16 [])), (5, (.row 691)), (6, (.row 352)), (9, (.d cI)), (10, (.d cI))], [(0, (.d cHeap)), (16, (.d cMarker))], [(352, cI, true), (691, cVal, true)], 692⟩, xid := 6, oc := ⟨[], [2, 3, 5, 6, 9], [(.tmp 5, cVal)], [], [0, 16], [352], 691⟩, o := ⟨[(2, (.pvar 0 [])), (3, (.pvar 16 [])), (5, (.row 691)), (6, (.row 352)), (9, (.d cI))], [(0, (.d cHeap)), (16, (.d cMarker))], [(352, cI, true), (691, cVal, true)], 692⟩, rc := ⟨[], [], [], [], [691], [], 691⟩, r := ⟨[], [], [], 691⟩, F := flotsamlaw17_MarkEnds_l2 }
noncomputable def flotsamlaw17_MarkEnds_L3 : LoopSum := { hc := ⟨[], [2, 3, 5, 6, 9], [(.tmp 5, cVal)], [], [0, 16], [352], 594⟩, h := ⟨[(2, (.pvar 0 [])), (3, (.pvar 16 [])), (5, (.row 594)), (6, (.row 352)), (9, (.d cI))], [(0, (.d cHeap)), (16, (.d cMarker))], [(352, cI, true), (594, cVal, true)], 595⟩, xid := 4, oc := ⟨[], [2, 3, 5, 6], [(.tmp 5, cVal)], [], [0, 16], [352], 594⟩, o := ⟨[(2, (.pvar 0 [])), (3, (.pvar 16 [])), (5, (.row 594)), (6, (.row 352))], [(0, (.d cHeap)), (16, (.d cMarker))], [(352, cI, true), (594, cVal, true)], 595⟩, rc := ⟨[], [], [], [], [594], [], 594⟩, r := ⟨[], [], [], 594⟩, F := flotsamlaw17_MarkEnds_l3 }
noncomputable def flotsamlaw17_MarkEnds_L4 : LoopSum := { hc := ⟨[], [2, 6, 11, 13, 18, 19, 20], [], [], [0, 739], [352, 627, 1059, 1107], 1235⟩, h := ⟨[(2, (.pvar 0 [])), (6, (.row 352)), (11, (.row 627)), (13, (.pvar 739 [])), (18, (.row 1059)), (19, (.row 1107)), (20, (.d cI))], [(0, (.d cHeap)), (739, (.d cHeap))], [(352, cI, true), (627, cI, true), (1059, cI, true), (1107, cI, true)], 1235⟩, xid := 10, oc := ⟨[], [], [], [], [], [], 1235⟩, o := ⟨[], [], [], 1235⟩, rc := ⟨[], [4], [], [], [], [], 1235⟩, r := ⟨[(4, (.d .bool))], [], [], 1235⟩, F := flotsamlaw17_MarkEnds_l4 }
noncomputable def flotsamlaw17_MarkEnds_L5 : LoopSum := { hc := ⟨[], [2, 3, 6, 11, 12, 13, 14], [], [], [0, 16, 739], [352, 627], 787⟩, h := ⟨[(2, (.pvar 0 [])), (3, (.pvar 16 [])), (6, (.row 352)), (11, (.row 627)), (12, (.d cI)), (13, (.pvar 739 [])), (14, (.d cI))], [(0, (.d cHeap)), (16, (.d cMarker)), (739, (.d cHeap))], [(352, cI, true), (627, cI, true)], 787⟩, xid := 8, oc := ⟨[], [], [], [], [], [], 787⟩, o := ⟨[], [], [], 787⟩, rc := ⟨[], [4], [], [], [], [], 787⟩, r := ⟨[(4, (.d .bool))], [], [], 787⟩, F := flotsamlaw17_MarkEnds_l5 }
noncomputable def flotsamlaw17_MarkEnds_S : List (Nat × Sum) := [(8, flotsamlaw17_awake_sm), (9, flotsamlaw17_fits_sm), (10, flotsamref08_Apart_sm), (11, flotsamref15_Black_sm), (12, flotsamref15_From_sm), (13, flotsamref17_Bound_sm), (14, mark_Step_sm), (15, flotsamref08_List_sm), (16, flotsamref08_Ints_sm), (17, flotsamref08_In_sm), (18, flotsamref08_Refs_sm), (19, flotsamref17_Right_sm)]
noncomputable def flotsamlaw17_MarkEnds_fl : List (Nat × Func) := []
noncomputable def flotsamlaw17_MarkEnds_es : List AE := [⟨8, 3, 0, 0, flotsamlaw17_MarkEnds_L0⟩, ⟨8, 3, 0, 2, flotsamlaw17_MarkEnds_L1⟩, ⟨8, 3, 0, 6, flotsamlaw17_MarkEnds_L2⟩, ⟨8, 3, 0, 4, flotsamlaw17_MarkEnds_L3⟩, ⟨8, 3, 0, 10, flotsamlaw17_MarkEnds_L4⟩, ⟨8, 3, 0, 8, flotsamlaw17_MarkEnds_L5⟩]
theorem flotsamlaw17_MarkEnds_den0 : (fun x => denStep TEv (look1 flotsamlaw17_MarkEnds_S) (look1 flotsamlaw17_MarkEnds_fl) (annOf flotsamlaw17_MarkEnds_es) 8 3 Go.Proofs.Tryd.f3.ntmps 0 (cat (bodyOf Go.Proofs.Tryd.f3) [true, true, true, true, false, true, false, false]) flotsamlaw17_MarkEnds_L0 x) = flotsamlaw17_MarkEnds_s0 := by kernel_rfl
theorem flotsamlaw17_MarkEnds_den1 : (fun x => denStep TEv (look1 flotsamlaw17_MarkEnds_S) (look1 flotsamlaw17_MarkEnds_fl) (annOf flotsamlaw17_MarkEnds_es) 8 3 Go.Proofs.Tryd.f3.ntmps 0 (cat (bodyOf Go.Proofs.Tryd.f3) [true, true, true, true, true, true, false, true, false, false]) flotsamlaw17_MarkEnds_L1 x) = flotsamlaw17_MarkEnds_s1 := by kernel_rfl
theorem flotsamlaw17_MarkEnds_den2 : (fun x => denStep TEv (look1 flotsamlaw17_MarkEnds_S) (look1 flotsamlaw17_MarkEnds_fl) (annOf flotsamlaw17_MarkEnds_es) 8 3 Go.Proofs.Tryd.f3.ntmps 0 (cat (bodyOf Go.Proofs.Tryd.f3) [true, true, true, true, true, true, true, false, true, false, false, true, false, false, true, false, false]) flotsamlaw17_MarkEnds_L2 x) = flotsamlaw17_MarkEnds_s2 := by kernel_rfl
theorem flotsamlaw17_MarkEnds_den3 : (fun x => denStep TEv (look1 flotsamlaw17_MarkEnds_S) (look1 flotsamlaw17_MarkEnds_fl) (annOf flotsamlaw17_MarkEnds_es) 8 3 Go.Proofs.Tryd.f3.ntmps 0 (cat (bodyOf Go.Proofs.Tryd.f3) [true, true, true, true, true, true, true, false, true, false, false]) flotsamlaw17_MarkEnds_L3 x) = flotsamlaw17_MarkEnds_s3 := by kernel_rfl
theorem flotsamlaw17_MarkEnds_den4 : (fun x => denStep TEv (look1 flotsamlaw17_MarkEnds_S) (look1 flotsamlaw17_MarkEnds_fl) (annOf flotsamlaw17_MarkEnds_es) 8 3 Go.Proofs.Tryd.f3.ntmps 0 (cat (bodyOf Go.Proofs.Tryd.f3) [true, true, true, true, true, true, true, true, true, true, true, false, true, false, false, true, false, false, true, false, true, false, true, true, true, false, true, false, false]) flotsamlaw17_MarkEnds_L4 x) = flotsamlaw17_MarkEnds_s4 := by kernel_rfl
theorem flotsamlaw17_MarkEnds_den5 : (fun x => denStep TEv (look1 flotsamlaw17_MarkEnds_S) (look1 flotsamlaw17_MarkEnds_fl) (annOf flotsamlaw17_MarkEnds_es) 8 3 Go.Proofs.Tryd.f3.ntmps 0 (cat (bodyOf Go.Proofs.Tryd.f3) [true, true, true, true, true, true, true, true, true, true, true, false, true, false, false]) flotsamlaw17_MarkEnds_L5 x) = flotsamlaw17_MarkEnds_s5 := by kernel_rfl
theorem flotsamlaw17_MarkEnds_den : (fun x => denFun TEv (look1 flotsamlaw17_MarkEnds_S) (look1 flotsamlaw17_MarkEnds_fl) (annOf flotsamlaw17_MarkEnds_es) 8 3 Go.Proofs.Tryd.f3 flotsamlaw17_MarkEnds_sm.a flotsamlaw17_MarkEnds_sm.r x) = flotsamlaw17_MarkEnds_sm.F := by kernel_rfl
theorem flotsamlaw17_MarkEnds_ok0 : AEok Go.Proofs.Tryd.prog TEv (look1 flotsamlaw17_MarkEnds_S) (look1 flotsamlaw17_MarkEnds_fl) (annOf flotsamlaw17_MarkEnds_es) ⟨8, 3, 0, 0, flotsamlaw17_MarkEnds_L0⟩ := aeok_of 9223372036854775808 Go.Proofs.Tryd.func3 (by kernel_rfl) flotsamlaw17_MarkEnds_den0 (by kernel_rfl)
theorem flotsamlaw17_MarkEnds_ok1 : AEok Go.Proofs.Tryd.prog TEv (look1 flotsamlaw17_MarkEnds_S) (look1 flotsamlaw17_MarkEnds_fl) (annOf flotsamlaw17_MarkEnds_es) ⟨8, 3, 0, 2, flotsamlaw17_MarkEnds_L1⟩ := aeok_of 9223372036854775808 Go.Proofs.Tryd.func3 (by kernel_rfl) flotsamlaw17_MarkEnds_den1 (by kernel_rfl)
theorem flotsamlaw17_MarkEnds_ok2 : AEok Go.Proofs.Tryd.prog TEv (look1 flotsamlaw17_MarkEnds_S) (look1 flotsamlaw17_MarkEnds_fl) (annOf flotsamlaw17_MarkEnds_es) ⟨8, 3, 0, 6, flotsamlaw17_MarkEnds_L2⟩ := aeok_of 9223372036854775808 Go.Proofs.Tryd.func3 (by kernel_rfl) flotsamlaw17_MarkEnds_den2 (by kernel_rfl)
theorem flotsamlaw17_MarkEnds_ok3 : AEok Go.Proofs.Tryd.prog TEv (look1 flotsamlaw17_MarkEnds_S) (look1 flotsamlaw17_MarkEnds_fl) (annOf flotsamlaw17_MarkEnds_es) ⟨8, 3, 0, 4, flotsamlaw17_MarkEnds_L3⟩ := aeok_of 9223372036854775808 Go.Proofs.Tryd.func3 (by kernel_rfl) flotsamlaw17_MarkEnds_den3 (by kernel_rfl)
theorem flotsamlaw17_MarkEnds_ok4 : AEok Go.Proofs.Tryd.prog TEv (look1 flotsamlaw17_MarkEnds_S) (look1 flotsamlaw17_MarkEnds_fl) (annOf flotsamlaw17_MarkEnds_es) ⟨8, 3, 0, 10, flotsamlaw17_MarkEnds_L4⟩ := aeok_of 9223372036854775808 Go.Proofs.Tryd.func3 (by kernel_rfl) flotsamlaw17_MarkEnds_den4 (by kernel_rfl)
theorem flotsamlaw17_MarkEnds_ok5 : AEok Go.Proofs.Tryd.prog TEv (look1 flotsamlaw17_MarkEnds_S) (look1 flotsamlaw17_MarkEnds_fl) (annOf flotsamlaw17_MarkEnds_es) ⟨8, 3, 0, 8, flotsamlaw17_MarkEnds_L5⟩ := aeok_of 9223372036854775808 Go.Proofs.Tryd.func3 (by kernel_rfl) flotsamlaw17_MarkEnds_den5 (by kernel_rfl)
theorem flotsamlaw17_MarkEnds_sem : SemOf Go.Proofs.Tryd.prog 3 flotsamlaw17_MarkEnds_sm :=
  semMk teOk (sl := flotsamlaw17_MarkEnds_S) (all_cons flotsamlaw17_awake_sem (all_cons flotsamlaw17_fits_sem (all_cons flotsamref08_Apart_sem (all_cons flotsamref15_Black_sem (all_cons flotsamref15_From_sem (all_cons flotsamref17_Bound_sem (all_cons mark_Step_sem (all_cons flotsamref08_List_sem (all_cons flotsamref08_Ints_sem (all_cons flotsamref08_In_sem (all_cons flotsamref08_Refs_sem (all_cons flotsamref17_Right_sem all_nil)))))))))))) (fl := flotsamlaw17_MarkEnds_fl) (all_nil) (es := flotsamlaw17_MarkEnds_es) Go.Proofs.Tryd.func3 (by kernel_rfl) rfl (rng_none (by kernel_rfl) (by kernel_rfl)) (all_cons flotsamlaw17_MarkEnds_ok0 (all_cons flotsamlaw17_MarkEnds_ok1 (all_cons flotsamlaw17_MarkEnds_ok2 (all_cons flotsamlaw17_MarkEnds_ok3 (all_cons flotsamlaw17_MarkEnds_ok4 (all_cons flotsamlaw17_MarkEnds_ok5 (all_nil))))))) rfl flotsamlaw17_MarkEnds_den
end Go.Proofs.YtdiogegolnoeoaaDoor.Den
