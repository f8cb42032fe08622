/- What functions come to. Printed by a program of this session. -/
import Derived.Test.YtdfhopakojmjkaaDoorDenFs1
namespace Go.Proofs.YtdfhopakojmjkaaDoor.Den
open Go
set_option maxRecDepth 100000
set_option linter.unusedVariables false
/-! ### flotsam/flotsamlaw18.SnapBegins -/
def flotsamlaw18_SnapBegins_r (a0 : Int) (a1 : Int) (a2 : Heap) (a3 : List ((List Val) × Int × (Int × Int × Val) × Int × Val × (List Int) × Unit)) : Option (Bool × Unit) :=
  (flotsamlaw18_awake ()).bind fun y1 =>
  bif !y1.1 then
    (flotsamlaw18_awake ()).bind fun y2 =>
    some (y2.1, ())
  else
  (flotsamlaw18_fits (a2, a3, ())).bind fun y3 =>
  bif !y3.1 then
    (flotsamlaw18_awake ()).bind fun y4 =>
    some (y4.1, ())
  else
  (snap_Begin ((0, 0, 0, (wi64 a0).tmod 17, (wi64 a1).tmod 17, ()), a2, a3, ())).bind fun y5 =>
  (flotsamref18_Begin ((0, 0, 0, (wi64 a0).tmod 17, (wi64 a1).tmod 17, ()), a2, a3, ())).bind fun y6 =>
  (flotsamref07_Same ((y5.1.1, y5.1.2.1, y5.1.2.2), (y6.1.1, y6.1.2.1, y6.1.2.2.1, ()), ())).bind fun y7 =>
  bif y7.1 then
    (flotsamref17_Same (((y5.2.1.1.1, y5.2.1.1.2.1, y5.2.1.1.2.2), y5.2.1.2.1, y5.2.1.2.2.1, y5.2.1.2.2.2), ((y6.2.1.1.1, y6.2.1.1.2.1, y6.2.1.1.2.2), y6.2.1.2.1, y6.2.1.2.2.1, y6.2.1.2.2.2), ())).bind fun y8 =>
    some (y8.1, ())
  else
  some (false, ())
def flotsamlaw18_SnapBegins (x : Int × Int × Heap × (List ((List Val) × Int × (Int × Int × Val) × Int × Val × (List Int) × Unit)) × Unit) : Option (Bool × Unit) := flotsamlaw18_SnapBegins_r x.1 x.2.1 x.2.2.1 x.2.2.2.1
noncomputable def flotsamlaw18_SnapBegins_sm : Sum := ⟨(.cons (.int .u8) (.cons (.int .u8) (.cons cHeap (.cons (.sl (.cons (.sl cVal) (.cons cI (.cons (.cons cI (.cons cI cVal)) (.cons cI (.cons cVal (.cons (.arr 4 cI) .nil))))))) .nil)))), (.cons (.d .bool) .nil), flotsamlaw18_SnapBegins⟩
noncomputable def flotsamlaw18_SnapBegins_S : List (Nat × Sum) := [(31, flotsamref07_Same_sm), (60, flotsamlaw18_awake_sm), (61, flotsamlaw18_fits_sm), (62, snap_Begin_sm), (63, flotsamref18_Begin_sm), (64, flotsamref17_Same_sm)]
noncomputable def flotsamlaw18_SnapBegins_fl : List (Nat × Func) := []
noncomputable def flotsamlaw18_SnapBegins_es : List AE := []
theorem flotsamlaw18_SnapBegins_den : (fun x => denFun TEv (look1 flotsamlaw18_SnapBegins_S) (look1 flotsamlaw18_SnapBegins_fl) (annOf flotsamlaw18_SnapBegins_es) 8 16 Go.Proofs.Tryd.f16 flotsamlaw18_SnapBegins_sm.a flotsamlaw18_SnapBegins_sm.r x) = flotsamlaw18_SnapBegins_sm.F := by kernel_rfl
theorem flotsamlaw18_SnapBegins_sem : SemOf Go.Proofs.Tryd.prog 16 flotsamlaw18_SnapBegins_sm :=
  semMk teOk (sl := flotsamlaw18_SnapBegins_S) (all_cons flotsamref07_Same_sem (all_cons flotsamlaw18_awake_sem (all_cons flotsamlaw18_fits_sem (all_cons snap_Begin_sem (all_cons flotsamref18_Begin_sem (all_cons flotsamref17_Same_sem all_nil)))))) (fl := flotsamlaw18_SnapBegins_fl) (all_nil) (es := flotsamlaw18_SnapBegins_es) Go.Proofs.Tryd.func16 (by kernel_rfl) rfl (all_nil) rfl flotsamlaw18_SnapBegins_den

/-! ### flotsam/flotsamref15.From -/
def flotsamref15_From_s0r (v1 : List Val) (v7 : Int) (v8 : Int) (c0 : Heap) (r48 : List Int) (r112 : List Bool) : Option (SRes (.cons (.sl cVal) (.cons cI (.cons cI (.cons cHeap (.cons (.sl cI) (.cons (.sl .bool) .nil)))))) (.cons (.sl cVal) (.cons cI (.cons cHeap (.cons (.sl cI) (.cons (.sl .bool) .nil))))) .nil) :=
  bif decide (v8 < (v1.length : Int)) then
    bif decide (0 ≤ v7) then
      bif decide (v7 < (r112.length : Int)) then
        bif r112.getD v7.toNat false then
          bif decide (0 ≤ v7) then
            bif decide (v7 < (r112.length : Int)) then
              some (.next (v1, v7, wi64 (v8 + 1), c0, r48, r112.set v7.toNat true, ()))
            else none
          else none
        else
        bif decide (0 ≤ v8) then
          bif decide (v8 < (v1.length : Int)) then
            bif (v1.getD v8.toNat (0, 0, ())).1 == 2 then
              bif decide (0 ≤ v8) then
                bif decide (v8 < (v1.length : Int)) then
                  bif decide (0 ≤ v7) then
                    bif decide (v7 < (r48.length : Int)) then
                      bif decide (0 ≤ v7) then
                        bif decide (v7 < (r112.length : Int)) then
                          some (.next (v1, v7, wi64 (v8 + 1), c0, r48, r112.set v7.toNat ((v1.getD v8.toNat (0, 0, ())).2.1 == (r48.getD v7.toNat 0)), ()))
                        else none
                      else none
                    else none
                  else none
                else none
              else none
            else
            bif decide (0 ≤ v7) then
              bif decide (v7 < (r112.length : Int)) then
                some (.next (v1, v7, wi64 (v8 + 1), c0, r48, r112.set v7.toNat false, ()))
              else none
            else none
          else none
        else none
      else none
    else none
  else
  some (.fin (.out (v1, v7, c0, r48, r112, ())))
def flotsamref15_From_s0 (x : (List Val) × Int × Int × Heap × (List Int) × (List Bool) × Unit) : Option (SRes (.cons (.sl cVal) (.cons cI (.cons cI (.cons cHeap (.cons (.sl cI) (.cons (.sl .bool) .nil)))))) (.cons (.sl cVal) (.cons cI (.cons cHeap (.cons (.sl cI) (.cons (.sl .bool) .nil))))) .nil) := flotsamref15_From_s0r x.1 x.2.1 x.2.2.1 x.2.2.2.1 x.2.2.2.2.1 x.2.2.2.2.2.1
def flotsamref15_From_l0 (x : (List Val) × Int × Int × Heap × (List Int) × (List Bool) × Unit) : Option (LRes (.cons (.sl cVal) (.cons cI (.cons cHeap (.cons (.sl cI) (.cons (.sl .bool) .nil))))) .nil) := iterL (h := (.cons (.sl cVal) (.cons cI (.cons cI (.cons cHeap (.cons (.sl cI) (.cons (.sl .bool) .nil))))))) (o := (.cons (.sl cVal) (.cons cI (.cons cHeap (.cons (.sl cI) (.cons (.sl .bool) .nil)))))) (r := .nil) flotsamref15_From_s0 9223372036854775808 x
def flotsamref15_From_s1r (v1 : List Val) (v7 : Int) (c0 : Heap) (r48 : List Int) (r112 : List Bool) : Option (SRes (.cons (.sl cVal) (.cons cI (.cons cHeap (.cons (.sl cI) (.cons (.sl .bool) .nil))))) (.cons cHeap (.cons (.sl cI) (.cons (.sl .bool) .nil))) .nil) :=
  bif decide (v7 < (r48.length : Int)) then
    (flotsamref15_From_l0 (v1, v7, 0, c0, r48, r112, ())).bind fun s2 => match s2 with
    | .out s2 =>
      some (.next (s2.1, wi64 (s2.2.1 + 1), s2.2.2.1, s2.2.2.2.1, s2.2.2.2.2.1, ()))
    | .ret s2 =>
      none
  else
  some (.fin (.out (c0, r48, r112, ())))
def flotsamref15_From_s1 (x : (List Val) × Int × Heap × (List Int) × (List Bool) × Unit) : Option (SRes (.cons (.sl cVal) (.cons cI (.cons cHeap (.cons (.sl cI) (.cons (.sl .bool) .nil))))) (.cons cHeap (.cons (.sl cI) (.cons (.sl .bool) .nil))) .nil) := flotsamref15_From_s1r x.1 x.2.1 x.2.2.1 x.2.2.2.1 x.2.2.2.2.1
def flotsamref15_From_l1 (x : (List Val) × Int × Heap × (List Int) × (List Bool) × Unit) : Option (LRes (.cons cHeap (.cons (.sl cI) (.cons (.sl .bool) .nil))) .nil) := iterL (h := (.cons (.sl cVal) (.cons cI (.cons cHeap (.cons (.sl cI) (.cons (.sl .bool) .nil)))))) (o := (.cons cHeap (.cons (.sl cI) (.cons (.sl .bool) .nil)))) (r := .nil) flotsamref15_From_s1 9223372036854775808 x
def flotsamref15_From_s2r (v9 : Int) (v10 : Int) (v12 : Int) (c0 : Heap) (r48 : List Int) (r112 : List Bool) (r480 : List Int) : Option (SRes (.cons cI (.cons cI (.cons cI (.cons cHeap (.cons (.sl cI) (.cons (.sl .bool) (.cons (.sl cI) .nil))))))) (.cons cI (.cons cI (.cons cHeap (.cons (.sl cI) (.cons (.sl .bool) .nil))))) .nil) :=
  bif decide (v12 < (r48.length : Int)) then
    bif decide (0 ≤ v12) then
      bif decide (v12 < (r112.length : Int)) then
        bif r112.getD v12.toNat false then
          bif decide (0 ≤ v12) then
            bif decide (v12 < (r112.length : Int)) then
              some (.next (v9, v10, wi64 (v12 + 1), c0, r48, r112.set v12.toNat true, r480, ()))
            else none
          else none
        else
        bif decide (0 ≤ v12) then
          bif decide (v12 < (r48.length : Int)) then
            (flotsamref08_In (r480, r48.getD v12.toNat 0, ())).bind fun y5 =>
            bif decide (0 ≤ v12) then
              bif decide (v12 < (r112.length : Int)) then
                some (.next (v9, v10, wi64 (v12 + 1), c0, r48, r112.set v12.toNat y5.1, r480, ()))
              else none
            else none
          else none
        else none
      else none
    else none
  else
  some (.fin (.out (v9, v10, c0, r48, r112, ())))
def flotsamref15_From_s2 (x : Int × Int × Int × Heap × (List Int) × (List Bool) × (List Int) × Unit) : Option (SRes (.cons cI (.cons cI (.cons cI (.cons cHeap (.cons (.sl cI) (.cons (.sl .bool) (.cons (.sl cI) .nil))))))) (.cons cI (.cons cI (.cons cHeap (.cons (.sl cI) (.cons (.sl .bool) .nil))))) .nil) := flotsamref15_From_s2r x.1 x.2.1 x.2.2.1 x.2.2.2.1 x.2.2.2.2.1 x.2.2.2.2.2.1 x.2.2.2.2.2.2.1
def flotsamref15_From_l2 (x : Int × Int × Int × Heap × (List Int) × (List Bool) × (List Int) × Unit) : Option (LRes (.cons cI (.cons cI (.cons cHeap (.cons (.sl cI) (.cons (.sl .bool) .nil))))) .nil) := iterL (h := (.cons cI (.cons cI (.cons cI (.cons cHeap (.cons (.sl cI) (.cons (.sl .bool) (.cons (.sl cI) .nil)))))))) (o := (.cons cI (.cons cI (.cons cHeap (.cons (.sl cI) (.cons (.sl .bool) .nil)))))) (r := .nil) flotsamref15_From_s2 9223372036854775808 x
def flotsamref15_From_s3r (v9 : Int) (v10 : Int) (c0 : Heap) (r48 : List Int) (r112 : List Bool) : Option (SRes (.cons cI (.cons cI (.cons cHeap (.cons (.sl cI) (.cons (.sl .bool) .nil))))) (.cons cI (.cons cHeap (.cons (.sl cI) (.cons (.sl .bool) .nil)))) .nil) :=
  bif decide (v10 < (r48.length : Int)) then
    bif decide (0 ≤ v10) then
      bif decide (v10 < (r112.length : Int)) then
        bif !(r112.getD v10.toNat false) then
          some (.next (v9, wi64 (v10 + 1), c0, r48, r112, ()))
        else
        bif decide (0 ≤ v10) then
          bif decide (v10 < (r48.length : Int)) then
            (flotsamref08_Refs (c0, r48.getD v10.toNat 0, ())).bind fun y4 =>
            (flotsamref15_From_l2 (v9, v10, 0, c0, r48, r112, y4.1, ())).bind fun s6 => match s6 with
            | .out s6 =>
              some (.next (s6.1, wi64 (s6.2.1 + 1), s6.2.2.1, s6.2.2.2.1, s6.2.2.2.2.1, ()))
            | .ret s6 =>
              none
          else none
        else none
      else none
    else none
  else
  some (.fin (.out (v9, c0, r48, r112, ())))
def flotsamref15_From_s3 (x : Int × Int × Heap × (List Int) × (List Bool) × Unit) : Option (SRes (.cons cI (.cons cI (.cons cHeap (.cons (.sl cI) (.cons (.sl .bool) .nil))))) (.cons cI (.cons cHeap (.cons (.sl cI) (.cons (.sl .bool) .nil)))) .nil) := flotsamref15_From_s3r x.1 x.2.1 x.2.2.1 x.2.2.2.1 x.2.2.2.2.1
def flotsamref15_From_l3 (x : Int × Int × Heap × (List Int) × (List Bool) × Unit) : Option (LRes (.cons cI (.cons cHeap (.cons (.sl cI) (.cons (.sl .bool) .nil)))) .nil) := iterL (h := (.cons cI (.cons cI (.cons cHeap (.cons (.sl cI) (.cons (.sl .bool) .nil)))))) (o := (.cons cI (.cons cHeap (.cons (.sl cI) (.cons (.sl .bool) .nil))))) (r := .nil) flotsamref15_From_s3 9223372036854775808 x
def flotsamref15_From_s4r (v9 : Int) (c0 : Heap) (r48 : List Int) (r112 : List Bool) : Option (SRes (.cons cI (.cons cHeap (.cons (.sl cI) (.cons (.sl .bool) .nil)))) (.cons (.sl cI) (.cons (.sl .bool) .nil)) .nil) :=
  bif decide (v9 < (r48.length : Int)) then
    (flotsamref15_From_l3 (v9, 0, c0, r48, r112, ())).bind fun s7 => match s7 with
    | .out s7 =>
      some (.next (wi64 (s7.1 + 1), s7.2.1, s7.2.2.1, s7.2.2.2.1, ()))
    | .ret s7 =>
      none
  else
  some (.fin (.out (r48, r112, ())))
def flotsamref15_From_s4 (x : Int × Heap × (List Int) × (List Bool) × Unit) : Option (SRes (.cons cI (.cons cHeap (.cons (.sl cI) (.cons (.sl .bool) .nil)))) (.cons (.sl cI) (.cons (.sl .bool) .nil)) .nil) := flotsamref15_From_s4r x.1 x.2.1 x.2.2.1 x.2.2.2.1
def flotsamref15_From_l4 (x : Int × Heap × (List Int) × (List Bool) × Unit) : Option (LRes (.cons (.sl cI) (.cons (.sl .bool) .nil)) .nil) := iterL (h := (.cons cI (.cons cHeap (.cons (.sl cI) (.cons (.sl .bool) .nil))))) (o := (.cons (.sl cI) (.cons (.sl .bool) .nil))) (r := .nil) flotsamref15_From_s4 9223372036854775808 x
def flotsamref15_From_s5r (v14 : Int) (r48 : List Int) (r112 : List Bool) (r208 : List Int) : Option (SRes (.cons cI (.cons (.sl cI) (.cons (.sl .bool) (.cons (.sl cI) .nil)))) (.cons (.sl cI) .nil) .nil) :=
  bif decide (v14 < (r48.length : Int)) then
    bif decide (0 ≤ v14) then
      bif decide (v14 < (r112.length : Int)) then
        bif r112.getD v14.toNat false then
          bif decide (0 ≤ v14) then
            bif decide (v14 < (r48.length : Int)) then
              bif decide ((r208.length + 1) * 8 ≤ 140737488355328) then
                some (.next (wi64 (v14 + 1), r48, r112, r208 ++ [r48.getD v14.toNat 0], ()))
              else none
            else none
          else none
        else
        some (.next (wi64 (v14 + 1), r48, r112, r208, ()))
      else none
    else none
  else
  some (.fin (.out (r208, ())))
def flotsamref15_From_s5 (x : Int × (List Int) × (List Bool) × (List Int) × Unit) : Option (SRes (.cons cI (.cons (.sl cI) (.cons (.sl .bool) (.cons (.sl cI) .nil)))) (.cons (.sl cI) .nil) .nil) := flotsamref15_From_s5r x.1 x.2.1 x.2.2.1 x.2.2.2.1
def flotsamref15_From_l5 (x : Int × (List Int) × (List Bool) × (List Int) × Unit) : Option (LRes (.cons (.sl cI) .nil) .nil) := iterL (h := (.cons cI (.cons (.sl cI) (.cons (.sl .bool) (.cons (.sl cI) .nil))))) (o := (.cons (.sl cI) .nil)) (r := .nil) flotsamref15_From_s5 9223372036854775808 x
def flotsamref15_From_r (a0 : Heap) (a1 : List Val) : Option ((List Int) × Unit) :=
  (flotsamref08_List (a0, ())).bind fun y1 =>
  bif (y1.1.length : Int) == (y1.1.length : Int) then
    bif decide (0 ≤ (y1.1.length : Int)) then
      bif decide ((y1.1.length : Int).toNat * 1 ≤ 140737488355328) then
        (flotsamref15_From_l1 (a1, 0, a0, y1.1, List.replicate (y1.1.length : Int).toNat false, ())).bind fun s3 => match s3 with
        | .out s3 =>
          (flotsamref15_From_l4 (0, s3.1, s3.2.1, s3.2.2.1, ())).bind fun s8 => match s8 with
          | .out s8 =>
            (flotsamref15_From_l5 (0, s8.1, s8.2.1, [], ())).bind fun s9 => match s9 with
            | .out s9 =>
              some (s9.1, ())
            | .ret s9 =>
              none
          | .ret s8 =>
            none
        | .ret s3 =>
          none
      else none
    else none
  else none
def flotsamref15_From (x : Heap × (List Val) × Unit) : Option ((List Int) × Unit) := flotsamref15_From_r x.1 x.2.1
noncomputable def flotsamref15_From_sm : Sum := ⟨(.cons cHeap (.cons (.sl cVal) .nil)), (.cons (.own cI) .nil), flotsamref15_From⟩
noncomputable def flotsamref15_From_L0 : LoopSum := { hc := ⟨[], [1, 2, 5, 6, 7, 8], [], [], [0], [48, 112], 240⟩, h := ⟨[(1, (.d (.sl cVal))), (2, (.pvar 0 [])), (5, (.row 48)), (6, (.row 112)), (7, (.d cI)), (8, (.d cI))], [(0, (.d cHeap))], [(48, cI, true), (112, .bool, true)], 240⟩, xid := 2, oc := ⟨[], [1, 2, 5, 6, 7], [], [], [0], [48, 112], 240⟩, o := ⟨[(1, (.d (.sl cVal))), (2, (.pvar 0 [])), (5, (.row 48)), (6, (.row 112)), (7, (.d cI))], [(0, (.d cHeap))], [(48, cI, true), (112, .bool, true)], 240⟩, rc := ⟨[], [], [], [], [240], [], 240⟩, r := ⟨[], [], [], 240⟩, F := flotsamref15_From_l0 }
noncomputable def flotsamref15_From_L1 : LoopSum := { hc := ⟨[], [1, 2, 5, 6, 7], [], [], [0], [48, 112], 160⟩, h := ⟨[(1, (.d (.sl cVal))), (2, (.pvar 0 [])), (5, (.row 48)), (6, (.row 112)), (7, (.d cI))], [(0, (.d cHeap))], [(48, cI, true), (112, .bool, true)], 160⟩, xid := 0, oc := ⟨[], [2, 5, 6], [], [], [0], [48, 112], 160⟩, o := ⟨[(2, (.pvar 0 [])), (5, (.row 48)), (6, (.row 112))], [(0, (.d cHeap))], [(48, cI, true), (112, .bool, true)], 160⟩, rc := ⟨[], [], [], [], [160], [], 160⟩, r := ⟨[], [], [], 160⟩, F := flotsamref15_From_l1 }
noncomputable def flotsamref15_From_L2 : LoopSum := { hc := ⟨[], [2, 5, 6, 9, 10, 11, 12], [], [], [0], [48, 112, 480], 528⟩, h := ⟨[(2, (.pvar 0 [])), (5, (.row 48)), (6, (.row 112)), (9, (.d cI)), (10, (.d cI)), (11, (.row 480)), (12, (.d cI))], [(0, (.d cHeap))], [(48, cI, true), (112, .bool, true), (480, cI, true)], 528⟩, xid := 8, oc := ⟨[], [2, 5, 6, 9, 10], [], [], [0], [48, 112], 528⟩, o := ⟨[(2, (.pvar 0 [])), (5, (.row 48)), (6, (.row 112)), (9, (.d cI)), (10, (.d cI))], [(0, (.d cHeap))], [(48, cI, true), (112, .bool, true)], 528⟩, rc := ⟨[], [], [], [], [528], [], 528⟩, r := ⟨[], [], [], 528⟩, F := flotsamref15_From_l2 }
noncomputable def flotsamref15_From_L3 : LoopSum := { hc := ⟨[], [2, 5, 6, 9, 10], [], [], [0], [48, 112], 256⟩, h := ⟨[(2, (.pvar 0 [])), (5, (.row 48)), (6, (.row 112)), (9, (.d cI)), (10, (.d cI))], [(0, (.d cHeap))], [(48, cI, true), (112, .bool, true)], 256⟩, xid := 6, oc := ⟨[], [2, 5, 6, 9], [], [], [0], [48, 112], 256⟩, o := ⟨[(2, (.pvar 0 [])), (5, (.row 48)), (6, (.row 112)), (9, (.d cI))], [(0, (.d cHeap))], [(48, cI, true), (112, .bool, true)], 256⟩, rc := ⟨[], [], [], [], [256], [], 256⟩, r := ⟨[], [], [], 256⟩, F := flotsamref15_From_l3 }
noncomputable def flotsamref15_From_L4 : LoopSum := { hc := ⟨[], [2, 5, 6, 9], [], [], [0], [48, 112], 176⟩, h := ⟨[(2, (.pvar 0 [])), (5, (.row 48)), (6, (.row 112)), (9, (.d cI))], [(0, (.d cHeap))], [(48, cI, true), (112, .bool, true)], 176⟩, xid := 4, oc := ⟨[], [5, 6], [], [], [], [48, 112], 176⟩, o := ⟨[(5, (.row 48)), (6, (.row 112))], [], [(48, cI, true), (112, .bool, true)], 176⟩, rc := ⟨[], [], [], [], [176], [], 176⟩, r := ⟨[], [], [], 176⟩, F := flotsamref15_From_l4 }
noncomputable def flotsamref15_From_L5 : LoopSum := { hc := ⟨[], [5, 6, 13, 14], [(.tmp 13, cI)], [], [], [48, 112], 208⟩, h := ⟨[(5, (.row 48)), (6, (.row 112)), (13, (.row 208)), (14, (.d cI))], [], [(48, cI, true), (112, .bool, true), (208, cI, true)], 209⟩, xid := 10, oc := ⟨[], [13], [(.tmp 13, cI)], [], [], [], 208⟩, o := ⟨[(13, (.row 208))], [], [(208, cI, true)], 209⟩, rc := ⟨[], [], [], [], [208], [], 208⟩, r := ⟨[], [], [], 208⟩, F := flotsamref15_From_l5 }
noncomputable def flotsamref15_From_S : List (Nat × Sum) := [(25, flotsamref08_List_sm), (28, flotsamref08_Refs_sm), (29, flotsamref08_In_sm)]
noncomputable def flotsamref15_From_fl : List (Nat × Func) := []
noncomputable def flotsamref15_From_es : List AE := [⟨8, 65, 0, 2, flotsamref15_From_L0⟩, ⟨8, 65, 0, 0, flotsamref15_From_L1⟩, ⟨8, 65, 0, 8, flotsamref15_From_L2⟩, ⟨8, 65, 0, 6, flotsamref15_From_L3⟩, ⟨8, 65, 0, 4, flotsamref15_From_L4⟩, ⟨8, 65, 0, 10, flotsamref15_From_L5⟩]
theorem flotsamref15_From_den0 : (fun x => denStep TEv (look1 flotsamref15_From_S) (look1 flotsamref15_From_fl) (annOf flotsamref15_From_es) 8 65 Go.Proofs.Tryd.f65.ntmps 0 (cat (bodyOf Go.Proofs.Tryd.f65) [true, true, true, false, true, false, false, true, false, false, true, false, false]) flotsamref15_From_L0 x) = flotsamref15_From_s0 := by kernel_rfl
theorem flotsamref15_From_den1 : (fun x => denStep TEv (look1 flotsamref15_From_S) (look1 flotsamref15_From_fl) (annOf flotsamref15_From_es) 8 65 Go.Proofs.Tryd.f65.ntmps 0 (cat (bodyOf Go.Proofs.Tryd.f65) [true, true, true, false, true, false, false]) flotsamref15_From_L1 x) = flotsamref15_From_s1 := by kernel_rfl
theorem flotsamref15_From_den2 : (fun x => denStep TEv (look1 flotsamref15_From_S) (look1 flotsamref15_From_fl) (annOf flotsamref15_From_es) 8 65 Go.Proofs.Tryd.f65.ntmps 0 (cat (bodyOf Go.Proofs.Tryd.f65) [true, true, true, true, false, true, false, false, true, false, false, true, false, false, true, false, false, true, true, true, false, false]) flotsamref15_From_L2 x) = flotsamref15_From_s2 := by kernel_rfl
theorem flotsamref15_From_den3 : (fun x => denStep TEv (look1 flotsamref15_From_S) (look1 flotsamref15_From_fl) (annOf flotsamref15_From_es) 8 65 Go.Proofs.Tryd.f65.ntmps 0 (cat (bodyOf Go.Proofs.Tryd.f65) [true, true, true, true, false, true, false, false, true, false, false, true, false, false]) flotsamref15_From_L3 x) = flotsamref15_From_s3 := by kernel_rfl
theorem flotsamref15_From_den4 : (fun x => denStep TEv (look1 flotsamref15_From_S) (look1 flotsamref15_From_fl) (annOf flotsamref15_From_es) 8 65 Go.Proofs.Tryd.f65.ntmps 0 (cat (bodyOf Go.Proofs.Tryd.f65) [true, true, true, true, false, true, false, false]) flotsamref15_From_L4 x) = flotsamref15_From_s4 := by kernel_rfl
theorem flotsamref15_From_den5 : (fun x => denStep TEv (look1 flotsamref15_From_S) (look1 flotsamref15_From_fl) (annOf flotsamref15_From_es) 8 65 Go.Proofs.Tryd.f65.ntmps 0 (cat (bodyOf Go.Proofs.Tryd.f65) [true, true, true, true, true, true, false, true, false, false]) flotsamref15_From_L5 x) = flotsamref15_From_s5 := by kernel_rfl
theorem flotsamref15_From_den : (fun x => denFun TEv (look1 flotsamref15_From_S) (look1 flotsamref15_From_fl) (annOf flotsamref15_From_es) 8 65 Go.Proofs.Tryd.f65 flotsamref15_From_sm.a flotsamref15_From_sm.r x) = flotsamref15_From_sm.F := by kernel_rfl
theorem flotsamref15_From_ok0 : AEok Go.Proofs.Tryd.prog TEv (look1 flotsamref15_From_S) (look1 flotsamref15_From_fl) (annOf flotsamref15_From_es) ⟨8, 65, 0, 2, flotsamref15_From_L0⟩ := aeok_of 9223372036854775808 Go.Proofs.Tryd.func65 (by kernel_rfl) flotsamref15_From_den0 (by kernel_rfl)
theorem flotsamref15_From_ok1 : AEok Go.Proofs.Tryd.prog TEv (look1 flotsamref15_From_S) (look1 flotsamref15_From_fl) (annOf flotsamref15_From_es) ⟨8, 65, 0, 0, flotsamref15_From_L1⟩ := aeok_of 9223372036854775808 Go.Proofs.Tryd.func65 (by kernel_rfl) flotsamref15_From_den1 (by kernel_rfl)
theorem flotsamref15_From_ok2 : AEok Go.Proofs.Tryd.prog TEv (look1 flotsamref15_From_S) (look1 flotsamref15_From_fl) (annOf flotsamref15_From_es) ⟨8, 65, 0, 8, flotsamref15_From_L2⟩ := aeok_of 9223372036854775808 Go.Proofs.Tryd.func65 (by kernel_rfl) flotsamref15_From_den2 (by kernel_rfl)
theorem flotsamref15_From_ok3 : AEok Go.Proofs.Tryd.prog TEv (look1 flotsamref15_From_S) (look1 flotsamref15_From_fl) (annOf flotsamref15_From_es) ⟨8, 65, 0, 6, flotsamref15_From_L3⟩ := aeok_of 9223372036854775808 Go.Proofs.Tryd.func65 (by kernel_rfl) flotsamref15_From_den3 (by kernel_rfl)
theorem flotsamref15_From_ok4 : AEok Go.Proofs.Tryd.prog TEv (look1 flotsamref15_From_S) (look1 flotsamref15_From_fl) (annOf flotsamref15_From_es) ⟨8, 65, 0, 4, flotsamref15_From_L4⟩ := aeok_of 9223372036854775808 Go.Proofs.Tryd.func65 (by kernel_rfl) flotsamref15_From_den4 (by kernel_rfl)
theorem flotsamref15_From_ok5 : AEok Go.Proofs.Tryd.prog TEv (look1 flotsamref15_From_S) (look1 flotsamref15_From_fl) (annOf flotsamref15_From_es) ⟨8, 65, 0, 10, flotsamref15_From_L5⟩ := aeok_of 9223372036854775808 Go.Proofs.Tryd.func65 (by kernel_rfl) flotsamref15_From_den5 (by kernel_rfl)
theorem flotsamref15_From_sem : SemOf Go.Proofs.Tryd.prog 65 flotsamref15_From_sm :=
  semMk teOk (sl := flotsamref15_From_S) (all_cons flotsamref08_List_sem (all_cons flotsamref08_Refs_sem (all_cons flotsamref08_In_sem all_nil))) (fl := flotsamref15_From_fl) (all_nil) (es := flotsamref15_From_es) Go.Proofs.Tryd.func65 (by kernel_rfl) rfl (all_cons flotsamref15_From_ok0 (all_cons flotsamref15_From_ok1 (all_cons flotsamref15_From_ok2 (all_cons flotsamref15_From_ok3 (all_cons flotsamref15_From_ok4 (all_cons flotsamref15_From_ok5 (all_nil))))))) rfl flotsamref15_From_den

/-! ### flotsam/flotsamlaw18.SnapHolds -/
def flotsamlaw18_SnapHolds_s0r (v1 : List ((List Val) × Int × (Int × Int × Val) × Int × Val × (List Int) × Unit)) (v8 : Int) (c0 : Heap) (c272 : Bool × Unit) (c288_0 : Int) (c288_1 : Unit) (c288_2 : Int × Int × Int × Bool × Unit) (r208 : List Int) (r209 : List Span) (r210 : List Int) (r211 : List Grey) (r212 : List Val) (r368 : List Val) : Option (SRes (.cons (.sl (.cons (.sl cVal) (.cons cI (.cons (.cons cI (.cons cI cVal)) (.cons cI (.cons cVal (.cons (.arr 4 cI) .nil))))))) (.cons cI (.cons cHeap (.cons (.cons .bool .nil) (.cons cI (.cons .nil (.cons (.cons cI (.cons cI (.cons cI (.cons .bool .nil)))) (.cons (.sl (.int .u64)) (.cons (.sl cSpan) (.cons (.sl cI) (.cons (.sl cGrey) (.cons (.sl cVal) (.cons (.sl cVal) .nil))))))))))))) (.cons cHeap (.cons (.cons .bool .nil) (.cons cI (.cons .nil (.cons (.cons cI (.cons cI (.cons cI (.cons .bool .nil)))) (.cons (.sl (.int .u64)) (.cons (.sl cSpan) (.cons (.sl cI) (.cons (.sl cGrey) (.cons (.sl cVal) (.cons (.sl cVal) .nil))))))))))) .nil) :=
  bif decide (v8 < (v1.length : Int)) then
    bif decide (0 ≤ v8) then
      bif decide (v8 < (v1.length : Int)) then
        bif decide ((r368.length + (v1.getD v8.toNat ([], 0, (0, 0, 0, 0, ()), 0, (0, 0, ()), List.replicate 4 0, ())).1.length) * 16 ≤ 140737488355328) then
          bif decide (0 ≤ v8) then
            bif decide (v8 < (v1.length : Int)) then
              bif (v1.getD v8.toNat ([], 0, (0, 0, 0, 0, ()), 0, (0, 0, ()), List.replicate 4 0, ())).2.1 == 2 then
                bif decide (0 ≤ v8) then
                  bif decide (v8 < (v1.length : Int)) then
                    bif decide (((r368 ++ (v1.getD v8.toNat ([], 0, (0, 0, 0, 0, ()), 0, (0, 0, ()), List.replicate 4 0, ())).1).length + 1) * 16 ≤ 140737488355328) then
                      bif decide (0 ≤ v8) then
                        bif decide (v8 < (v1.length : Int)) then
                          bif (v1.getD v8.toNat ([], 0, (0, 0, 0, 0, ()), 0, (0, 0, ()), List.replicate 4 0, ())).2.1 == 3 then
                            bif decide (0 ≤ v8) then
                              bif decide (v8 < (v1.length : Int)) then
                                bif decide ((((r368 ++ (v1.getD v8.toNat ([], 0, (0, 0, 0, 0, ()), 0, (0, 0, ()), List.replicate 4 0, ())).1) ++ [(2, (v1.getD v8.toNat ([], 0, (0, 0, 0, 0, ()), 0, (0, 0, ()), List.replicate 4 0, ())).2.2.2.1, ())]).length + 1) * 16 ≤ 140737488355328) then
                                  some (.next (v1, wi64 (v8 + 1), c0, c272, c288_0, c288_1, c288_2, r208, r209, r210, r211, r212, ((r368 ++ (v1.getD v8.toNat ([], 0, (0, 0, 0, 0, ()), 0, (0, 0, ()), List.replicate 4 0, ())).1) ++ [(2, (v1.getD v8.toNat ([], 0, (0, 0, 0, 0, ()), 0, (0, 0, ()), List.replicate 4 0, ())).2.2.2.1, ())]) ++ [(v1.getD v8.toNat ([], 0, (0, 0, 0, 0, ()), 0, (0, 0, ()), List.replicate 4 0, ())).2.2.2.2.1], ()))
                                else none
                              else none
                            else none
                          else
                          bif decide (0 ≤ v8) then
                            bif decide (v8 < (v1.length : Int)) then
                              bif (v1.getD v8.toNat ([], 0, (0, 0, 0, 0, ()), 0, (0, 0, ()), List.replicate 4 0, ())).2.1 == 4 then
                                bif decide (0 ≤ v8) then
                                  bif decide (v8 < (v1.length : Int)) then
                                    bif decide ((((r368 ++ (v1.getD v8.toNat ([], 0, (0, 0, 0, 0, ()), 0, (0, 0, ()), List.replicate 4 0, ())).1) ++ [(2, (v1.getD v8.toNat ([], 0, (0, 0, 0, 0, ()), 0, (0, 0, ()), List.replicate 4 0, ())).2.2.2.1, ())]).length + 1) * 16 ≤ 140737488355328) then
                                      some (.next (v1, wi64 (v8 + 1), c0, c272, c288_0, c288_1, c288_2, r208, r209, r210, r211, r212, ((r368 ++ (v1.getD v8.toNat ([], 0, (0, 0, 0, 0, ()), 0, (0, 0, ()), List.replicate 4 0, ())).1) ++ [(2, (v1.getD v8.toNat ([], 0, (0, 0, 0, 0, ()), 0, (0, 0, ()), List.replicate 4 0, ())).2.2.2.1, ())]) ++ [(v1.getD v8.toNat ([], 0, (0, 0, 0, 0, ()), 0, (0, 0, ()), List.replicate 4 0, ())).2.2.2.2.1], ()))
                                    else none
                                  else none
                                else none
                              else
                              some (.next (v1, wi64 (v8 + 1), c0, c272, c288_0, c288_1, c288_2, r208, r209, r210, r211, r212, (r368 ++ (v1.getD v8.toNat ([], 0, (0, 0, 0, 0, ()), 0, (0, 0, ()), List.replicate 4 0, ())).1) ++ [(2, (v1.getD v8.toNat ([], 0, (0, 0, 0, 0, ()), 0, (0, 0, ()), List.replicate 4 0, ())).2.2.2.1, ())], ()))
                            else none
                          else none
                        else none
                      else none
                    else none
                  else none
                else none
              else
              bif decide (0 ≤ v8) then
                bif decide (v8 < (v1.length : Int)) then
                  bif (v1.getD v8.toNat ([], 0, (0, 0, 0, 0, ()), 0, (0, 0, ()), List.replicate 4 0, ())).2.1 == 4 then
                    bif decide (0 ≤ v8) then
                      bif decide (v8 < (v1.length : Int)) then
                        bif decide (((r368 ++ (v1.getD v8.toNat ([], 0, (0, 0, 0, 0, ()), 0, (0, 0, ()), List.replicate 4 0, ())).1).length + 1) * 16 ≤ 140737488355328) then
                          bif decide (0 ≤ v8) then
                            bif decide (v8 < (v1.length : Int)) then
                              bif (v1.getD v8.toNat ([], 0, (0, 0, 0, 0, ()), 0, (0, 0, ()), List.replicate 4 0, ())).2.1 == 3 then
                                bif decide (0 ≤ v8) then
                                  bif decide (v8 < (v1.length : Int)) then
                                    bif decide ((((r368 ++ (v1.getD v8.toNat ([], 0, (0, 0, 0, 0, ()), 0, (0, 0, ()), List.replicate 4 0, ())).1) ++ [(2, (v1.getD v8.toNat ([], 0, (0, 0, 0, 0, ()), 0, (0, 0, ()), List.replicate 4 0, ())).2.2.2.1, ())]).length + 1) * 16 ≤ 140737488355328) then
                                      some (.next (v1, wi64 (v8 + 1), c0, c272, c288_0, c288_1, c288_2, r208, r209, r210, r211, r212, ((r368 ++ (v1.getD v8.toNat ([], 0, (0, 0, 0, 0, ()), 0, (0, 0, ()), List.replicate 4 0, ())).1) ++ [(2, (v1.getD v8.toNat ([], 0, (0, 0, 0, 0, ()), 0, (0, 0, ()), List.replicate 4 0, ())).2.2.2.1, ())]) ++ [(v1.getD v8.toNat ([], 0, (0, 0, 0, 0, ()), 0, (0, 0, ()), List.replicate 4 0, ())).2.2.2.2.1], ()))
                                    else none
                                  else none
                                else none
                              else
                              bif decide (0 ≤ v8) then
                                bif decide (v8 < (v1.length : Int)) then
                                  bif (v1.getD v8.toNat ([], 0, (0, 0, 0, 0, ()), 0, (0, 0, ()), List.replicate 4 0, ())).2.1 == 4 then
                                    bif decide (0 ≤ v8) then
                                      bif decide (v8 < (v1.length : Int)) then
                                        bif decide ((((r368 ++ (v1.getD v8.toNat ([], 0, (0, 0, 0, 0, ()), 0, (0, 0, ()), List.replicate 4 0, ())).1) ++ [(2, (v1.getD v8.toNat ([], 0, (0, 0, 0, 0, ()), 0, (0, 0, ()), List.replicate 4 0, ())).2.2.2.1, ())]).length + 1) * 16 ≤ 140737488355328) then
                                          some (.next (v1, wi64 (v8 + 1), c0, c272, c288_0, c288_1, c288_2, r208, r209, r210, r211, r212, ((r368 ++ (v1.getD v8.toNat ([], 0, (0, 0, 0, 0, ()), 0, (0, 0, ()), List.replicate 4 0, ())).1) ++ [(2, (v1.getD v8.toNat ([], 0, (0, 0, 0, 0, ()), 0, (0, 0, ()), List.replicate 4 0, ())).2.2.2.1, ())]) ++ [(v1.getD v8.toNat ([], 0, (0, 0, 0, 0, ()), 0, (0, 0, ()), List.replicate 4 0, ())).2.2.2.2.1], ()))
                                        else none
                                      else none
                                    else none
                                  else
                                  some (.next (v1, wi64 (v8 + 1), c0, c272, c288_0, c288_1, c288_2, r208, r209, r210, r211, r212, (r368 ++ (v1.getD v8.toNat ([], 0, (0, 0, 0, 0, ()), 0, (0, 0, ()), List.replicate 4 0, ())).1) ++ [(2, (v1.getD v8.toNat ([], 0, (0, 0, 0, 0, ()), 0, (0, 0, ()), List.replicate 4 0, ())).2.2.2.1, ())], ()))
                                else none
                              else none
                            else none
                          else none
                        else none
                      else none
                    else none
                  else
                  bif decide (0 ≤ v8) then
                    bif decide (v8 < (v1.length : Int)) then
                      bif (v1.getD v8.toNat ([], 0, (0, 0, 0, 0, ()), 0, (0, 0, ()), List.replicate 4 0, ())).2.1 == 3 then
                        bif decide (0 ≤ v8) then
                          bif decide (v8 < (v1.length : Int)) then
                            bif decide (((r368 ++ (v1.getD v8.toNat ([], 0, (0, 0, 0, 0, ()), 0, (0, 0, ()), List.replicate 4 0, ())).1).length + 1) * 16 ≤ 140737488355328) then
                              some (.next (v1, wi64 (v8 + 1), c0, c272, c288_0, c288_1, c288_2, r208, r209, r210, r211, r212, (r368 ++ (v1.getD v8.toNat ([], 0, (0, 0, 0, 0, ()), 0, (0, 0, ()), List.replicate 4 0, ())).1) ++ [(v1.getD v8.toNat ([], 0, (0, 0, 0, 0, ()), 0, (0, 0, ()), List.replicate 4 0, ())).2.2.2.2.1], ()))
                            else none
                          else none
                        else none
                      else
                      bif decide (0 ≤ v8) then
                        bif decide (v8 < (v1.length : Int)) then
                          bif (v1.getD v8.toNat ([], 0, (0, 0, 0, 0, ()), 0, (0, 0, ()), List.replicate 4 0, ())).2.1 == 4 then
                            bif decide (0 ≤ v8) then
                              bif decide (v8 < (v1.length : Int)) then
                                bif decide (((r368 ++ (v1.getD v8.toNat ([], 0, (0, 0, 0, 0, ()), 0, (0, 0, ()), List.replicate 4 0, ())).1).length + 1) * 16 ≤ 140737488355328) then
                                  some (.next (v1, wi64 (v8 + 1), c0, c272, c288_0, c288_1, c288_2, r208, r209, r210, r211, r212, (r368 ++ (v1.getD v8.toNat ([], 0, (0, 0, 0, 0, ()), 0, (0, 0, ()), List.replicate 4 0, ())).1) ++ [(v1.getD v8.toNat ([], 0, (0, 0, 0, 0, ()), 0, (0, 0, ()), List.replicate 4 0, ())).2.2.2.2.1], ()))
                                else none
                              else none
                            else none
                          else
                          some (.next (v1, wi64 (v8 + 1), c0, c272, c288_0, c288_1, c288_2, r208, r209, r210, r211, r212, r368 ++ (v1.getD v8.toNat ([], 0, (0, 0, 0, 0, ()), 0, (0, 0, ()), List.replicate 4 0, ())).1, ()))
                        else none
                      else none
                    else none
                  else none
                else none
              else none
            else none
          else none
        else none
      else none
    else none
  else
  some (.fin (.out (c0, c272, c288_0, c288_1, c288_2, r208, r209, r210, r211, r212, r368, ())))
def flotsamlaw18_SnapHolds_s0 (x : (List ((List Val) × Int × (Int × Int × Val) × Int × Val × (List Int) × Unit)) × Int × Heap × (Bool × Unit) × Int × Unit × (Int × Int × Int × Bool × Unit) × (List Int) × (List Span) × (List Int) × (List Grey) × (List Val) × (List Val) × Unit) : Option (SRes (.cons (.sl (.cons (.sl cVal) (.cons cI (.cons (.cons cI (.cons cI cVal)) (.cons cI (.cons cVal (.cons (.arr 4 cI) .nil))))))) (.cons cI (.cons cHeap (.cons (.cons .bool .nil) (.cons cI (.cons .nil (.cons (.cons cI (.cons cI (.cons cI (.cons .bool .nil)))) (.cons (.sl (.int .u64)) (.cons (.sl cSpan) (.cons (.sl cI) (.cons (.sl cGrey) (.cons (.sl cVal) (.cons (.sl cVal) .nil))))))))))))) (.cons cHeap (.cons (.cons .bool .nil) (.cons cI (.cons .nil (.cons (.cons cI (.cons cI (.cons cI (.cons .bool .nil)))) (.cons (.sl (.int .u64)) (.cons (.sl cSpan) (.cons (.sl cI) (.cons (.sl cGrey) (.cons (.sl cVal) (.cons (.sl cVal) .nil))))))))))) .nil) := flotsamlaw18_SnapHolds_s0r x.1 x.2.1 x.2.2.1 x.2.2.2.1 x.2.2.2.2.1 x.2.2.2.2.2.1 x.2.2.2.2.2.2.1 x.2.2.2.2.2.2.2.1 x.2.2.2.2.2.2.2.2.1 x.2.2.2.2.2.2.2.2.2.1 x.2.2.2.2.2.2.2.2.2.2.1 x.2.2.2.2.2.2.2.2.2.2.2.1 x.2.2.2.2.2.2.2.2.2.2.2.2.1
def flotsamlaw18_SnapHolds_l0 (x : (List ((List Val) × Int × (Int × Int × Val) × Int × Val × (List Int) × Unit)) × Int × Heap × (Bool × Unit) × Int × Unit × (Int × Int × Int × Bool × Unit) × (List Int) × (List Span) × (List Int) × (List Grey) × (List Val) × (List Val) × Unit) : Option (LRes (.cons cHeap (.cons (.cons .bool .nil) (.cons cI (.cons .nil (.cons (.cons cI (.cons cI (.cons cI (.cons .bool .nil)))) (.cons (.sl (.int .u64)) (.cons (.sl cSpan) (.cons (.sl cI) (.cons (.sl cGrey) (.cons (.sl cVal) (.cons (.sl cVal) .nil))))))))))) .nil) := iterL (h := (.cons (.sl (.cons (.sl cVal) (.cons cI (.cons (.cons cI (.cons cI cVal)) (.cons cI (.cons cVal (.cons (.arr 4 cI) .nil))))))) (.cons cI (.cons cHeap (.cons (.cons .bool .nil) (.cons cI (.cons .nil (.cons (.cons cI (.cons cI (.cons cI (.cons .bool .nil)))) (.cons (.sl (.int .u64)) (.cons (.sl cSpan) (.cons (.sl cI) (.cons (.sl cGrey) (.cons (.sl cVal) (.cons (.sl cVal) .nil)))))))))))))) (o := (.cons cHeap (.cons (.cons .bool .nil) (.cons cI (.cons .nil (.cons (.cons cI (.cons cI (.cons cI (.cons .bool .nil)))) (.cons (.sl (.int .u64)) (.cons (.sl cSpan) (.cons (.sl cI) (.cons (.sl cGrey) (.cons (.sl cVal) (.cons (.sl cVal) .nil)))))))))))) (r := .nil) flotsamlaw18_SnapHolds_s0 9223372036854775808 x
def flotsamlaw18_SnapHolds_s1r (v10 : Int) (c0 : Heap) (c272 : Bool × Unit) (c288_0 : Int) (c288_1 : Unit) (c288_2 : Int × Int × Int × Bool × Unit) (r208 : List Int) (r209 : List Span) (r210 : List Int) (r211 : List Grey) (r212 : List Val) (r368 : List Val) (r385 : List Int) : Option (SRes (.cons cI (.cons cHeap (.cons (.cons .bool .nil) (.cons cI (.cons .nil (.cons (.cons cI (.cons cI (.cons cI (.cons .bool .nil)))) (.cons (.sl (.int .u64)) (.cons (.sl cSpan) (.cons (.sl cI) (.cons (.sl cGrey) (.cons (.sl cVal) (.cons (.sl cVal) (.cons (.sl cI) .nil))))))))))))) (.cons cHeap (.cons (.cons .bool .nil) (.cons cI (.cons .nil (.cons (.cons cI (.cons cI (.cons cI (.cons .bool .nil)))) (.cons (.sl (.int .u64)) (.cons (.sl cSpan) (.cons (.sl cI) (.cons (.sl cGrey) (.cons (.sl cVal) (.cons (.sl cVal) .nil))))))))))) (.cons .bool .nil)) :=
  bif decide (v10 < (r385.length : Int)) then
    bif decide (0 ≤ v10) then
      bif decide (v10 < (r385.length : Int)) then
        (flotsamref08_Black ((r208, r209, c272), r385.getD v10.toNat 0, ())).bind fun y8 =>
        bif decide (0 ≤ v10) then
          bif decide (v10 < (r385.length : Int)) then
            (flotsamref08_Black (c0, r385.getD v10.toNat 0, ())).bind fun y9 =>
            bif y8.1 == y9.1 then
              some (.fin (.ret (false, ())))
            else
            some (.next (wi64 (v10 + 1), c0, c272, c288_0, c288_1, c288_2, r208, r209, r210, r211, r212, r368, r385, ()))
          else none
        else none
      else none
    else none
  else
  some (.fin (.out (c0, c272, c288_0, c288_1, c288_2, r208, r209, r210, r211, r212, r368, ())))
def flotsamlaw18_SnapHolds_s1 (x : Int × Heap × (Bool × Unit) × Int × Unit × (Int × Int × Int × Bool × Unit) × (List Int) × (List Span) × (List Int) × (List Grey) × (List Val) × (List Val) × (List Int) × Unit) : Option (SRes (.cons cI (.cons cHeap (.cons (.cons .bool .nil) (.cons cI (.cons .nil (.cons (.cons cI (.cons cI (.cons cI (.cons .bool .nil)))) (.cons (.sl (.int .u64)) (.cons (.sl cSpan) (.cons (.sl cI) (.cons (.sl cGrey) (.cons (.sl cVal) (.cons (.sl cVal) (.cons (.sl cI) .nil))))))))))))) (.cons cHeap (.cons (.cons .bool .nil) (.cons cI (.cons .nil (.cons (.cons cI (.cons cI (.cons cI (.cons .bool .nil)))) (.cons (.sl (.int .u64)) (.cons (.sl cSpan) (.cons (.sl cI) (.cons (.sl cGrey) (.cons (.sl cVal) (.cons (.sl cVal) .nil))))))))))) (.cons .bool .nil)) := flotsamlaw18_SnapHolds_s1r x.1 x.2.1 x.2.2.1 x.2.2.2.1 x.2.2.2.2.1 x.2.2.2.2.2.1 x.2.2.2.2.2.2.1 x.2.2.2.2.2.2.2.1 x.2.2.2.2.2.2.2.2.1 x.2.2.2.2.2.2.2.2.2.1 x.2.2.2.2.2.2.2.2.2.2.1 x.2.2.2.2.2.2.2.2.2.2.2.1 x.2.2.2.2.2.2.2.2.2.2.2.2.1
def flotsamlaw18_SnapHolds_l1 (x : Int × Heap × (Bool × Unit) × Int × Unit × (Int × Int × Int × Bool × Unit) × (List Int) × (List Span) × (List Int) × (List Grey) × (List Val) × (List Val) × (List Int) × Unit) : Option (LRes (.cons cHeap (.cons (.cons .bool .nil) (.cons cI (.cons .nil (.cons (.cons cI (.cons cI (.cons cI (.cons .bool .nil)))) (.cons (.sl (.int .u64)) (.cons (.sl cSpan) (.cons (.sl cI) (.cons (.sl cGrey) (.cons (.sl cVal) (.cons (.sl cVal) .nil))))))))))) (.cons .bool .nil)) := iterL (h := (.cons cI (.cons cHeap (.cons (.cons .bool .nil) (.cons cI (.cons .nil (.cons (.cons cI (.cons cI (.cons cI (.cons .bool .nil)))) (.cons (.sl (.int .u64)) (.cons (.sl cSpan) (.cons (.sl cI) (.cons (.sl cGrey) (.cons (.sl cVal) (.cons (.sl cVal) (.cons (.sl cI) .nil)))))))))))))) (o := (.cons cHeap (.cons (.cons .bool .nil) (.cons cI (.cons .nil (.cons (.cons cI (.cons cI (.cons cI (.cons .bool .nil)))) (.cons (.sl (.int .u64)) (.cons (.sl cSpan) (.cons (.sl cI) (.cons (.sl cGrey) (.cons (.sl cVal) (.cons (.sl cVal) .nil)))))))))))) (r := (.cons .bool .nil)) flotsamlaw18_SnapHolds_s1 9223372036854775808 x
def flotsamlaw18_SnapHolds_r (a0 : Heap) (a1 : List ((List Val) × Int × (Int × Int × Val) × Int × Val × (List Int) × Unit)) : Option (Bool × Unit) :=
  (flotsamlaw18_awake ()).bind fun y1 =>
  bif !y1.1 then
    (flotsamlaw18_awake ()).bind fun y2 =>
    some (y2.1, ())
  else
  (flotsamlaw18_fits (a0, a1, ())).bind fun y3 =>
  bif !y3.1 then
    (flotsamlaw18_awake ()).bind fun y4 =>
    some (y4.1, ())
  else
  (snap_Begin ((0, 0, 0, 1, 1, ()), a0, a1, ())).bind fun y5 =>
  (flotsamlaw18_SnapHolds_l0 (a1, 0, a0, y5.1.2.2, y5.2.1.1.1, y5.2.1.1.2.2, y5.2.1.2.2.2, y5.1.1, y5.1.2.1, y5.2.1.1.2.1, y5.2.1.2.1, y5.2.1.2.2.1, [], ())).bind fun s6 => match s6 with
  | .out s6 =>
    (flotsamref08_List (s6.1, ())).bind fun y7 =>
    (flotsamlaw18_SnapHolds_l1 (0, s6.1, s6.2.1, s6.2.2.1, s6.2.2.2.1, s6.2.2.2.2.1, s6.2.2.2.2.2.1, s6.2.2.2.2.2.2.1, s6.2.2.2.2.2.2.2.1, s6.2.2.2.2.2.2.2.2.1, s6.2.2.2.2.2.2.2.2.2.1, s6.2.2.2.2.2.2.2.2.2.2.1, y7.1, ())).bind fun s10 => match s10 with
    | .out s10 =>
      (flotsamref15_From ((s10.2.2.2.2.2.1, s10.2.2.2.2.2.2.1, s10.2.1), s10.2.2.2.2.2.2.2.2.2.1, ())).bind fun y11 =>
      (flotsamref15_From (s10.1, s10.2.2.2.2.2.2.2.2.2.2.1, ())).bind fun y12 =>
      (flotsamref08_Ints (y11.1, y12.1, ())).bind fun y13 =>
      some (y13.1, ())
    | .ret s10 =>
      some (s10.1, ())
  | .ret s6 =>
    none
def flotsamlaw18_SnapHolds (x : Heap × (List ((List Val) × Int × (Int × Int × Val) × Int × Val × (List Int) × Unit)) × Unit) : Option (Bool × Unit) := flotsamlaw18_SnapHolds_r x.1 x.2.1
noncomputable def flotsamlaw18_SnapHolds_sm : Sum := ⟨(.cons cHeap (.cons (.sl (.cons (.sl cVal) (.cons cI (.cons (.cons cI (.cons cI cVal)) (.cons cI (.cons cVal (.cons (.arr 4 cI) .nil))))))) .nil)), (.cons (.d .bool) .nil), flotsamlaw18_SnapHolds⟩
noncomputable def flotsamlaw18_SnapHolds_L0 : LoopSum := { hc := ⟨[], [1, 2, 5, 6, 7, 8], [(.tmp 7, cVal)], [], [0, 272, 288], [208, 209, 210, 211, 212], 368⟩, h := ⟨[(1, (.d (.sl (.cons (.sl cVal) (.cons cI (.cons (.cons cI (.cons cI cVal)) (.cons cI (.cons cVal (.cons (.arr 4 cI) .nil))))))))), (2, (.pvar 0 [])), (5, (.pvar 272 [])), (6, (.pvar 288 [])), (7, (.row 368)), (8, (.d cI))], [(0, (.d cHeap)), (272, (.cons (.row 208) (.cons (.row 209) (.d (.cons .bool .nil))))), (288, (.cons (.cons (.d cI) (.cons (.row 210) (.d .nil))) (.cons (.row 211) (.cons (.row 212) (.d (.cons cI (.cons cI (.cons cI (.cons .bool .nil)))))))))], [(208, (.int .u64), true), (209, cSpan, true), (210, cI, true), (211, cGrey, true), (212, cVal, true), (368, cVal, true)], 369⟩, xid := 0, oc := ⟨[], [2, 5, 6, 7], [(.tmp 7, cVal)], [], [0, 272, 288], [208, 209, 210, 211, 212], 368⟩, o := ⟨[(2, (.pvar 0 [])), (5, (.pvar 272 [])), (6, (.pvar 288 [])), (7, (.row 368))], [(0, (.d cHeap)), (272, (.cons (.row 208) (.cons (.row 209) (.d (.cons .bool .nil))))), (288, (.cons (.cons (.d cI) (.cons (.row 210) (.d .nil))) (.cons (.row 211) (.cons (.row 212) (.d (.cons cI (.cons cI (.cons cI (.cons .bool .nil)))))))))], [(208, (.int .u64), true), (209, cSpan, true), (210, cI, true), (211, cGrey, true), (212, cVal, true), (368, cVal, true)], 369⟩, rc := ⟨[], [], [], [], [368], [], 368⟩, r := ⟨[], [], [], 368⟩, F := flotsamlaw18_SnapHolds_l0 }
noncomputable def flotsamlaw18_SnapHolds_L1 : LoopSum := { hc := ⟨[], [2, 5, 6, 7, 9, 10], [], [], [0, 272, 288], [208, 209, 210, 211, 212, 368, 385], 433⟩, h := ⟨[(2, (.pvar 0 [])), (5, (.pvar 272 [])), (6, (.pvar 288 [])), (7, (.row 368)), (9, (.row 385)), (10, (.d cI))], [(0, (.d cHeap)), (272, (.cons (.row 208) (.cons (.row 209) (.d (.cons .bool .nil))))), (288, (.cons (.cons (.d cI) (.cons (.row 210) (.d .nil))) (.cons (.row 211) (.cons (.row 212) (.d (.cons cI (.cons cI (.cons cI (.cons .bool .nil)))))))))], [(208, (.int .u64), true), (209, cSpan, true), (210, cI, true), (211, cGrey, true), (212, cVal, true), (368, cVal, true), (385, cI, true)], 433⟩, xid := 2, oc := ⟨[], [2, 5, 6, 7], [], [], [0, 272, 288], [208, 209, 210, 211, 212, 368], 433⟩, o := ⟨[(2, (.pvar 0 [])), (5, (.pvar 272 [])), (6, (.pvar 288 [])), (7, (.row 368))], [(0, (.d cHeap)), (272, (.cons (.row 208) (.cons (.row 209) (.d (.cons .bool .nil))))), (288, (.cons (.cons (.d cI) (.cons (.row 210) (.d .nil))) (.cons (.row 211) (.cons (.row 212) (.d (.cons cI (.cons cI (.cons cI (.cons .bool .nil)))))))))], [(208, (.int .u64), true), (209, cSpan, true), (210, cI, true), (211, cGrey, true), (212, cVal, true), (368, cVal, true)], 433⟩, rc := ⟨[], [4], [], [], [], [], 433⟩, r := ⟨[(4, (.d .bool))], [], [], 433⟩, F := flotsamlaw18_SnapHolds_l1 }
noncomputable def flotsamlaw18_SnapHolds_S : List (Nat × Sum) := [(25, flotsamref08_List_sm), (26, flotsamref08_Ints_sm), (27, flotsamref08_Black_sm), (60, flotsamlaw18_awake_sm), (61, flotsamlaw18_fits_sm), (62, snap_Begin_sm), (65, flotsamref15_From_sm)]
noncomputable def flotsamlaw18_SnapHolds_fl : List (Nat × Func) := []
noncomputable def flotsamlaw18_SnapHolds_es : List AE := [⟨8, 17, 0, 0, flotsamlaw18_SnapHolds_L0⟩, ⟨8, 17, 0, 2, flotsamlaw18_SnapHolds_L1⟩]
theorem flotsamlaw18_SnapHolds_den0 : (fun x => denStep TEv (look1 flotsamlaw18_SnapHolds_S) (look1 flotsamlaw18_SnapHolds_fl) (annOf flotsamlaw18_SnapHolds_es) 8 17 Go.Proofs.Tryd.f17.ntmps 0 (cat (bodyOf Go.Proofs.Tryd.f17) [true, true, true, true, false, true, false, false]) flotsamlaw18_SnapHolds_L0 x) = flotsamlaw18_SnapHolds_s0 := by kernel_rfl
theorem flotsamlaw18_SnapHolds_den1 : (fun x => denStep TEv (look1 flotsamlaw18_SnapHolds_S) (look1 flotsamlaw18_SnapHolds_fl) (annOf flotsamlaw18_SnapHolds_es) 8 17 Go.Proofs.Tryd.f17.ntmps 0 (cat (bodyOf Go.Proofs.Tryd.f17) [true, true, true, true, true, true, false, true, false, false]) flotsamlaw18_SnapHolds_L1 x) = flotsamlaw18_SnapHolds_s1 := by kernel_rfl
theorem flotsamlaw18_SnapHolds_den : (fun x => denFun TEv (look1 flotsamlaw18_SnapHolds_S) (look1 flotsamlaw18_SnapHolds_fl) (annOf flotsamlaw18_SnapHolds_es) 8 17 Go.Proofs.Tryd.f17 flotsamlaw18_SnapHolds_sm.a flotsamlaw18_SnapHolds_sm.r x) = flotsamlaw18_SnapHolds_sm.F := by kernel_rfl
theorem flotsamlaw18_SnapHolds_ok0 : AEok Go.Proofs.Tryd.prog TEv (look1 flotsamlaw18_SnapHolds_S) (look1 flotsamlaw18_SnapHolds_fl) (annOf flotsamlaw18_SnapHolds_es) ⟨8, 17, 0, 0, flotsamlaw18_SnapHolds_L0⟩ := aeok_of 9223372036854775808 Go.Proofs.Tryd.func17 (by kernel_rfl) flotsamlaw18_SnapHolds_den0 (by kernel_rfl)
theorem flotsamlaw18_SnapHolds_ok1 : AEok Go.Proofs.Tryd.prog TEv (look1 flotsamlaw18_SnapHolds_S) (look1 flotsamlaw18_SnapHolds_fl) (annOf flotsamlaw18_SnapHolds_es) ⟨8, 17, 0, 2, flotsamlaw18_SnapHolds_L1⟩ := aeok_of 9223372036854775808 Go.Proofs.Tryd.func17 (by kernel_rfl) flotsamlaw18_SnapHolds_den1 (by kernel_rfl)
theorem flotsamlaw18_SnapHolds_sem : SemOf Go.Proofs.Tryd.prog 17 flotsamlaw18_SnapHolds_sm :=
  semMk teOk (sl := flotsamlaw18_SnapHolds_S) (all_cons flotsamref08_List_sem (all_cons flotsamref08_Ints_sem (all_cons flotsamref08_Black_sem (all_cons flotsamlaw18_awake_sem (all_cons flotsamlaw18_fits_sem (all_cons snap_Begin_sem (all_cons flotsamref15_From_sem all_nil))))))) (fl := flotsamlaw18_SnapHolds_fl) (all_nil) (es := flotsamlaw18_SnapHolds_es) Go.Proofs.Tryd.func17 (by kernel_rfl) rfl (all_cons flotsamlaw18_SnapHolds_ok0 (all_cons flotsamlaw18_SnapHolds_ok1 (all_nil))) rfl flotsamlaw18_SnapHolds_den
end Go.Proofs.YtdfhopakojmjkaaDoor.Den
