/- What functions come to. Printed by a program of this session. -/
import Derived.Test.YtdiogegolnoeoaaDoorDenF6
namespace Go.Proofs.YtdiogegolnoeoaaDoor.Den
open Go
set_option maxRecDepth 100000
set_option linter.unusedVariables false
/-! ### flotsam/flotsamlaw17.MarkExact -/
def flotsamlaw17_MarkExact_s0r (v4 : List Int) (v14 : Int) (v15 : Int) (c0 : Heap) (c880 : Marker) (r656 : List Int) : Option (SRes (.cons (.sl (.int .u8)) (.cons cI (.cons cI (.cons cHeap (.cons cMarker (.cons (.sl cI) .nil)))))) .nil (.cons .bool .nil)) :=
  bif decide (v15 ≤ v14) then
    bif decide (v15 < (v4.length : Int)) then
      bif decide ((r656.length : Int) > 0) then
        bif (c880.2.1.length : Int) == 2 then
          bif decide (0 ≤ v15) then
            bif decide (v15 < (v4.length : Int)) then
              bif (r656.length : Int) == 0 then none else
              bif decide (0 ≤ ((wi64 (v4.getD v15.toNat 0)).tmod (r656.length : Int))) then
                bif decide (((wi64 (v4.getD v15.toNat 0)).tmod (r656.length : Int)) < (r656.length : Int)) then
                  (mark_Note (c0, c880, v15.tmod 2, (2, r656.getD ((wi64 (v4.getD v15.toNat 0)).tmod (r656.length : Int)).toNat 0, ()), ())).bind fun y14 =>
                  (mark_Step (y14.1, (y14.2.1.1, y14.2.1.2.1, y14.2.1.2.2), ())).bind fun y15 =>
                  bif y15.2.2.1 then
                    bif decide (v15 ≥ (v4.length : Int)) then
                      (flotsamref15_Black (y14.1, ())).bind fun y16 =>
                      (flotsamref08_Ints (y16.1, r656, ())).bind fun y17 =>
                      some (.fin (.ret (y17.1, ())))
                    else
                    some (.next (v4, v14, wi64 (v15 + 1), y15.1, y15.2.1, r656, ()))
                  else
                  some (.next (v4, v14, wi64 (v15 + 1), y15.1, y15.2.1, r656, ()))
                else none
              else none
            else none
          else none
        else
        (mark_Step (c0, c880, ())).bind fun y18 =>
        bif y18.2.2.1 then
          bif decide (v15 ≥ (v4.length : Int)) then
            (flotsamref15_Black (c0, ())).bind fun y19 =>
            (flotsamref08_Ints (y19.1, r656, ())).bind fun y20 =>
            some (.fin (.ret (y20.1, ())))
          else
          some (.next (v4, v14, wi64 (v15 + 1), y18.1, y18.2.1, r656, ()))
        else
        some (.next (v4, v14, wi64 (v15 + 1), y18.1, y18.2.1, r656, ()))
      else
      (mark_Step (c0, c880, ())).bind fun y21 =>
      bif y21.2.2.1 then
        bif decide (v15 ≥ (v4.length : Int)) then
          (flotsamref15_Black (c0, ())).bind fun y22 =>
          (flotsamref08_Ints (y22.1, r656, ())).bind fun y23 =>
          some (.fin (.ret (y23.1, ())))
        else
        some (.next (v4, v14, wi64 (v15 + 1), y21.1, y21.2.1, r656, ()))
      else
      some (.next (v4, v14, wi64 (v15 + 1), y21.1, y21.2.1, r656, ()))
    else
    (mark_Step (c0, c880, ())).bind fun y24 =>
    bif y24.2.2.1 then
      bif decide (v15 ≥ (v4.length : Int)) then
        (flotsamref15_Black (c0, ())).bind fun y25 =>
        (flotsamref08_Ints (y25.1, r656, ())).bind fun y26 =>
        some (.fin (.ret (y26.1, ())))
      else
      some (.next (v4, v14, wi64 (v15 + 1), y24.1, y24.2.1, r656, ()))
    else
    some (.next (v4, v14, wi64 (v15 + 1), y24.1, y24.2.1, r656, ()))
  else
  some (.fin (.out ()))
def flotsamlaw17_MarkExact_s0 (x : (List Int) × Int × Int × Heap × Marker × (List Int) × Unit) : Option (SRes (.cons (.sl (.int .u8)) (.cons cI (.cons cI (.cons cHeap (.cons cMarker (.cons (.sl cI) .nil)))))) .nil (.cons .bool .nil)) := flotsamlaw17_MarkExact_s0r x.1 x.2.1 x.2.2.1 x.2.2.2.1 x.2.2.2.2.1 x.2.2.2.2.2.1
def flotsamlaw17_MarkExact_l0 (x : (List Int) × Int × Int × Heap × Marker × (List Int) × Unit) : Option (LRes .nil (.cons .bool .nil)) := iterL (h := (.cons (.sl (.int .u8)) (.cons cI (.cons cI (.cons cHeap (.cons cMarker (.cons (.sl cI) .nil))))))) (o := .nil) (r := (.cons .bool .nil)) flotsamlaw17_MarkExact_s0 9223372036854775808 x
def flotsamlaw17_MarkExact_r (a0 : Heap) (a1 : Int) (a2 : Int) (a3 : List Val) (a4 : List Int) : Option (Bool × Unit) :=
  (flotsamlaw17_awake ()).bind fun y1 =>
  bif !y1.1 then
    (flotsamlaw17_awake ()).bind fun y2 =>
    some (y2.1, ())
  else
  (flotsamref07_Form (a0, ())).bind fun y3 =>
  bif !y3.1 then
    (flotsamlaw17_awake ()).bind fun y4 =>
    some (y4.1, ())
  else
  (flotsamref08_Apart (a0, ())).bind fun y5 =>
  bif !y5.1 then
    (flotsamlaw17_awake ()).bind fun y6 =>
    some (y6.1, ())
  else
  bif decide ((a0.1.length : Int) > 128) then
    (flotsamlaw17_awake ()).bind fun y7 =>
    some (y7.1, ())
  else
  bif decide ((a3.length : Int) > 50) then
    (flotsamlaw17_awake ()).bind fun y8 =>
    some (y8.1, ())
  else
  bif decide ((a4.length : Int) > 50) then
    (flotsamlaw17_awake ()).bind fun y9 =>
    some (y9.1, ())
  else
  (flotsamref15_Black ((a0.1, a0.2.1, !a0.2.2.1, a0.2.2.2), ())).bind fun y10 =>
  bif decide ((y10.1.length : Int) > 0) then
    some (true, ())
  else
  (flotsamref15_From ((a0.1, a0.2.1, !a0.2.2.1, a0.2.2.2), a3, ())).bind fun y11 =>
  (mark_New ((wi64 a1).tmod 17, [(wi64 a2).tmod 9, 2], a3, ())).bind fun y12 =>
  bif !y12.2.1 then
    some (false, ())
  else
  (flotsamref17_Bound ((a0.1, a0.2.1, !a0.2.2.1, a0.2.2.2), ((y12.1.1.1, y12.1.1.2.1, y12.1.1.2.2), y12.1.2.1, y12.1.2.2.1, y12.1.2.2.2), ())).bind fun y13 =>
  (flotsamlaw17_MarkExact_l0 (a4, wi64 (y13.1 + (wi64 (60 * (wi64 ((a0.1.length : Int) + 40))))), 0, (a0.1, a0.2.1, !a0.2.2.1, a0.2.2.2), ((y12.1.1.1, y12.1.1.2.1, y12.1.1.2.2), y12.1.2.1, y12.1.2.2.1, y12.1.2.2.2), y11.1, ())).bind fun s27 => match s27 with
  | .out s27 =>
    some (false, ())
  | .ret s27 =>
    some (s27.1, ())
def flotsamlaw17_MarkExact (x : Heap × Int × Int × (List Val) × (List Int) × Unit) : Option (Bool × Unit) := flotsamlaw17_MarkExact_r x.1 x.2.1 x.2.2.1 x.2.2.2.1 x.2.2.2.2.1
noncomputable def flotsamlaw17_MarkExact_sm : Sum := ⟨(.cons cHeap (.cons (.int .u8) (.cons (.int .u8) (.cons (.sl cVal) (.cons (.sl (.int .u8)) .nil))))), (.cons (.d .bool) .nil), flotsamlaw17_MarkExact⟩
noncomputable def flotsamlaw17_MarkExact_L0 : LoopSum := { hc := ⟨[(.key 880 [], cMarker)], [4, 5, 11, 12, 14, 15], [], [], [0, 880], [656], 1136⟩, h := ⟨[(4, (.d (.sl (.int .u8)))), (5, (.pvar 0 [])), (11, (.row 656)), (12, (.pvar 880 [])), (14, (.d cI)), (15, (.d cI))], [(0, (.d cHeap)), (880, (.d cMarker))], [(656, cI, true)], 1136⟩, xid := 0, oc := ⟨[], [], [], [], [], [], 1136⟩, o := ⟨[], [], [], 1136⟩, rc := ⟨[], [10], [], [], [], [], 1136⟩, r := ⟨[(10, (.d .bool))], [], [], 1136⟩, F := flotsamlaw17_MarkExact_l0 }
noncomputable def flotsamlaw17_MarkExact_S : List (Nat × Sum) := [(8, flotsamlaw17_awake_sm), (10, flotsamref08_Apart_sm), (11, flotsamref15_Black_sm), (12, flotsamref15_From_sm), (13, flotsamref17_Bound_sm), (14, mark_Step_sm), (16, flotsamref08_Ints_sm), (20, flotsamref07_Form_sm), (21, mark_New_sm), (22, mark_Note_sm)]
noncomputable def flotsamlaw17_MarkExact_fl : List (Nat × Func) := []
noncomputable def flotsamlaw17_MarkExact_es : List AE := [⟨8, 4, 0, 0, flotsamlaw17_MarkExact_L0⟩]
theorem flotsamlaw17_MarkExact_den0 : (fun x => denStep TEv (look1 flotsamlaw17_MarkExact_S) (look1 flotsamlaw17_MarkExact_fl) (annOf flotsamlaw17_MarkExact_es) 8 4 Go.Proofs.Tryd.f4.ntmps 0 (cat (bodyOf Go.Proofs.Tryd.f4) [true, true, true, true, true, true, true, true, false, true, false, false]) flotsamlaw17_MarkExact_L0 x) = flotsamlaw17_MarkExact_s0 := by kernel_rfl
theorem flotsamlaw17_MarkExact_den : (fun x => denFun TEv (look1 flotsamlaw17_MarkExact_S) (look1 flotsamlaw17_MarkExact_fl) (annOf flotsamlaw17_MarkExact_es) 8 4 Go.Proofs.Tryd.f4 flotsamlaw17_MarkExact_sm.a flotsamlaw17_MarkExact_sm.r x) = flotsamlaw17_MarkExact_sm.F := by kernel_rfl
theorem flotsamlaw17_MarkExact_ok0 : AEok Go.Proofs.Tryd.prog TEv (look1 flotsamlaw17_MarkExact_S) (look1 flotsamlaw17_MarkExact_fl) (annOf flotsamlaw17_MarkExact_es) ⟨8, 4, 0, 0, flotsamlaw17_MarkExact_L0⟩ := aeok_of 9223372036854775808 Go.Proofs.Tryd.func4 (by kernel_rfl) flotsamlaw17_MarkExact_den0 (by kernel_rfl)
theorem flotsamlaw17_MarkExact_sem : SemOf Go.Proofs.Tryd.prog 4 flotsamlaw17_MarkExact_sm :=
  semMk teOk (sl := flotsamlaw17_MarkExact_S) (all_cons flotsamlaw17_awake_sem (all_cons flotsamref08_Apart_sem (all_cons flotsamref15_Black_sem (all_cons flotsamref15_From_sem (all_cons flotsamref17_Bound_sem (all_cons mark_Step_sem (all_cons flotsamref08_Ints_sem (all_cons flotsamref07_Form_sem (all_cons mark_New_sem (all_cons mark_Note_sem all_nil)))))))))) (fl := flotsamlaw17_MarkExact_fl) (all_nil) (es := flotsamlaw17_MarkExact_es) Go.Proofs.Tryd.func4 (by kernel_rfl) rfl (rng_none (by kernel_rfl) (by kernel_rfl)) (all_cons flotsamlaw17_MarkExact_ok0 (all_nil)) rfl flotsamlaw17_MarkExact_den

/-! ### flotsam/flotsamref05.Same -/
def flotsamref05_Same_s0r (v0 : List Int) (v1 : List Int) (v5 : Int) : Option (SRes (.cons (.sl (.int .u64)) (.cons (.sl (.int .u64)) (.cons cI .nil))) .nil (.cons .bool .nil)) :=
  bif decide (v5 < (v0.length : Int)) then
    bif decide (0 ≤ v5) then
      bif decide (v5 < (v0.length : Int)) then
        bif decide (0 ≤ v5) then
          bif decide (v5 < (v1.length : Int)) then
            bif (v0.getD v5.toNat 0) != (v1.getD v5.toNat 0) then
              some (.fin (.ret (false, ())))
            else
            some (.next (v0, v1, wi64 (v5 + 1), ()))
          else none
        else none
      else none
    else none
  else
  some (.fin (.out ()))
def flotsamref05_Same_s0 (x : (List Int) × (List Int) × Int × Unit) : Option (SRes (.cons (.sl (.int .u64)) (.cons (.sl (.int .u64)) (.cons cI .nil))) .nil (.cons .bool .nil)) := flotsamref05_Same_s0r x.1 x.2.1 x.2.2.1
def flotsamref05_Same_l0 (x : (List Int) × (List Int) × Int × Unit) : Option (LRes .nil (.cons .bool .nil)) := iterL (h := (.cons (.sl (.int .u64)) (.cons (.sl (.int .u64)) (.cons cI .nil)))) (o := .nil) (r := (.cons .bool .nil)) flotsamref05_Same_s0 9223372036854775808 x
def flotsamref05_Same_r (a0 : List Int) (a1 : List Int) : Option (Bool × Unit) :=
  bif (a0.length : Int) != (a1.length : Int) then
    some (false, ())
  else
  (flotsamref05_Same_l0 (a0, a1, 0, ())).bind fun s1 => match s1 with
  | .out s1 =>
    some (true, ())
  | .ret s1 =>
    some (s1.1, ())
def flotsamref05_Same (x : (List Int) × (List Int) × Unit) : Option (Bool × Unit) := flotsamref05_Same_r x.1 x.2.1
noncomputable def flotsamref05_Same_sm : Sum := ⟨(.cons (.sl (.int .u64)) (.cons (.sl (.int .u64)) .nil)), (.cons (.d .bool) .nil), flotsamref05_Same⟩
noncomputable def flotsamref05_Same_L0 : LoopSum := { hc := ⟨[], [0, 1, 5], [], [], [], [], 112⟩, h := ⟨[(0, (.d (.sl (.int .u64)))), (1, (.d (.sl (.int .u64)))), (5, (.d cI))], [], [], 112⟩, xid := 0, oc := ⟨[], [], [], [], [], [], 112⟩, o := ⟨[], [], [], 112⟩, rc := ⟨[], [4], [], [], [], [], 112⟩, r := ⟨[(4, (.d .bool))], [], [], 112⟩, F := flotsamref05_Same_l0 }
noncomputable def flotsamref05_Same_S : List (Nat × Sum) := []
noncomputable def flotsamref05_Same_fl : List (Nat × Func) := []
noncomputable def flotsamref05_Same_es : List AE := [⟨8, 47, 0, 0, flotsamref05_Same_L0⟩]
theorem flotsamref05_Same_den0 : (fun x => denStep TEv (look1 flotsamref05_Same_S) (look1 flotsamref05_Same_fl) (annOf flotsamref05_Same_es) 8 47 Go.Proofs.Tryd.f47.ntmps 0 (cat (bodyOf Go.Proofs.Tryd.f47) [true, true, false, true, false, false]) flotsamref05_Same_L0 x) = flotsamref05_Same_s0 := by kernel_rfl
theorem flotsamref05_Same_den : (fun x => denFun TEv (look1 flotsamref05_Same_S) (look1 flotsamref05_Same_fl) (annOf flotsamref05_Same_es) 8 47 Go.Proofs.Tryd.f47 flotsamref05_Same_sm.a flotsamref05_Same_sm.r x) = flotsamref05_Same_sm.F := by kernel_rfl
theorem flotsamref05_Same_ok0 : AEok Go.Proofs.Tryd.prog TEv (look1 flotsamref05_Same_S) (look1 flotsamref05_Same_fl) (annOf flotsamref05_Same_es) ⟨8, 47, 0, 0, flotsamref05_Same_L0⟩ := aeok_of 9223372036854775808 Go.Proofs.Tryd.func47 (by kernel_rfl) flotsamref05_Same_den0 (by kernel_rfl)
theorem flotsamref05_Same_sem : SemOf Go.Proofs.Tryd.prog 47 flotsamref05_Same_sm :=
  semMk teOk (sl := flotsamref05_Same_S) (all_nil) (fl := flotsamref05_Same_fl) (all_nil) (es := flotsamref05_Same_es) Go.Proofs.Tryd.func47 (by kernel_rfl) rfl (rng_none (by kernel_rfl) (by kernel_rfl)) (all_cons flotsamref05_Same_ok0 (all_nil)) rfl flotsamref05_Same_den

/-! ### flotsam/flotsamref07.Same -/
def flotsamref07_Same_s0r (v5 : Int) (c0 : Heap) (c16 : Heap) : Option (SRes (.cons cI (.cons cHeap (.cons cHeap .nil))) .nil (.cons .bool .nil)) :=
  bif decide (v5 < (c0.2.1.length : Int)) then
    bif decide (0 ≤ v5) then
      bif decide (v5 < (c0.2.1.length : Int)) then
        bif decide (0 ≤ v5) then
          bif decide (v5 < (c16.2.1.length : Int)) then
            bif !(((c0.2.1.getD v5.toNat (0, 0, 0, ())).1 == (c16.2.1.getD v5.toNat (0, 0, 0, ())).1) && (((c0.2.1.getD v5.toNat (0, 0, 0, ())).2.1 == (c16.2.1.getD v5.toNat (0, 0, 0, ())).2.1) && (((c0.2.1.getD v5.toNat (0, 0, 0, ())).2.2.1 == (c16.2.1.getD v5.toNat (0, 0, 0, ())).2.2.1) && true))) then
              some (.fin (.ret (false, ())))
            else
            some (.next (wi64 (v5 + 1), c0, c16, ()))
          else none
        else none
      else none
    else none
  else
  some (.fin (.out ()))
def flotsamref07_Same_s0 (x : Int × Heap × Heap × Unit) : Option (SRes (.cons cI (.cons cHeap (.cons cHeap .nil))) .nil (.cons .bool .nil)) := flotsamref07_Same_s0r x.1 x.2.1 x.2.2.1
def flotsamref07_Same_l0 (x : Int × Heap × Heap × Unit) : Option (LRes .nil (.cons .bool .nil)) := iterL (h := (.cons cI (.cons cHeap (.cons cHeap .nil)))) (o := .nil) (r := (.cons .bool .nil)) flotsamref07_Same_s0 9223372036854775808 x
def flotsamref07_Same_r (a0 : Heap) (a1 : Heap) : Option (Bool × Unit) :=
  bif !(a0.2.2.1 == a1.2.2.1) then
    some (false, ())
  else
  bif (a0.2.1.length : Int) != (a1.2.1.length : Int) then
    some (false, ())
  else
  (flotsamref05_Same (a0.1, a1.1, ())).bind fun y1 =>
  bif !y1.1 then
    some (false, ())
  else
  (flotsamref07_Same_l0 (0, a0, a1, ())).bind fun s2 => match s2 with
  | .out s2 =>
    some (true, ())
  | .ret s2 =>
    some (s2.1, ())
def flotsamref07_Same (x : Heap × Heap × Unit) : Option (Bool × Unit) := flotsamref07_Same_r x.1 x.2.1
noncomputable def flotsamref07_Same_sm : Sum := ⟨(.cons cHeap (.cons cHeap .nil)), (.cons (.d .bool) .nil), flotsamref07_Same⟩
noncomputable def flotsamref07_Same_L0 : LoopSum := { hc := ⟨[], [2, 3, 5], [], [], [0, 16], [], 416⟩, h := ⟨[(2, (.pvar 0 [])), (3, (.pvar 16 [])), (5, (.d cI))], [(0, (.d cHeap)), (16, (.d cHeap))], [], 416⟩, xid := 0, oc := ⟨[], [], [], [], [], [], 416⟩, o := ⟨[], [], [], 416⟩, rc := ⟨[], [4], [], [], [], [], 416⟩, r := ⟨[(4, (.d .bool))], [], [], 416⟩, F := flotsamref07_Same_l0 }
noncomputable def flotsamref07_Same_S : List (Nat × Sum) := [(47, flotsamref05_Same_sm)]
noncomputable def flotsamref07_Same_fl : List (Nat × Func) := []
noncomputable def flotsamref07_Same_es : List AE := [⟨8, 23, 0, 0, flotsamref07_Same_L0⟩]
theorem flotsamref07_Same_den0 : (fun x => denStep TEv (look1 flotsamref07_Same_S) (look1 flotsamref07_Same_fl) (annOf flotsamref07_Same_es) 8 23 Go.Proofs.Tryd.f23.ntmps 0 (cat (bodyOf Go.Proofs.Tryd.f23) [true, true, false, true, false, false]) flotsamref07_Same_L0 x) = flotsamref07_Same_s0 := by kernel_rfl
theorem flotsamref07_Same_den : (fun x => denFun TEv (look1 flotsamref07_Same_S) (look1 flotsamref07_Same_fl) (annOf flotsamref07_Same_es) 8 23 Go.Proofs.Tryd.f23 flotsamref07_Same_sm.a flotsamref07_Same_sm.r x) = flotsamref07_Same_sm.F := by kernel_rfl
theorem flotsamref07_Same_ok0 : AEok Go.Proofs.Tryd.prog TEv (look1 flotsamref07_Same_S) (look1 flotsamref07_Same_fl) (annOf flotsamref07_Same_es) ⟨8, 23, 0, 0, flotsamref07_Same_L0⟩ := aeok_of 9223372036854775808 Go.Proofs.Tryd.func23 (by kernel_rfl) flotsamref07_Same_den0 (by kernel_rfl)
theorem flotsamref07_Same_sem : SemOf Go.Proofs.Tryd.prog 23 flotsamref07_Same_sm :=
  semMk teOk (sl := flotsamref07_Same_S) (all_cons flotsamref05_Same_sem all_nil) (fl := flotsamref07_Same_fl) (all_nil) (es := flotsamref07_Same_es) Go.Proofs.Tryd.func23 (by kernel_rfl) rfl (rng_none (by kernel_rfl) (by kernel_rfl)) (all_cons flotsamref07_Same_ok0 (all_nil)) rfl flotsamref07_Same_den

/-! ### flotsam/flotsamlaw17.ended -/
def flotsamlaw17_ended_s0r (v10 : Int) (v11 : Int) (c0 : Heap) (c16 : Bool × Unit) (c144 : Marker) : Option (SRes (.cons cI (.cons cI (.cons cHeap (.cons (.cons .bool .nil) (.cons cMarker .nil))))) (.cons cHeap (.cons (.cons .bool .nil) .nil)) (.cons .bool (.cons cHeap .nil))) :=
  bif decide (v11 ≤ v10) then
    (mark_Step (c0, c144, ())).bind fun y3 =>
    bif y3.2.2.1 then
      some (.fin (.ret (true, c0, ())))
    else
    some (.next (v10, wi64 (v11 + 1), y3.1, c16, y3.2.1, ()))
  else
  some (.fin (.out (c0, c16, ())))
def flotsamlaw17_ended_s0 (x : Int × Int × Heap × (Bool × Unit) × Marker × Unit) : Option (SRes (.cons cI (.cons cI (.cons cHeap (.cons (.cons .bool .nil) (.cons cMarker .nil))))) (.cons cHeap (.cons (.cons .bool .nil) .nil)) (.cons .bool (.cons cHeap .nil))) := flotsamlaw17_ended_s0r x.1 x.2.1 x.2.2.1 x.2.2.2.1 x.2.2.2.2.1
def flotsamlaw17_ended_l0 (x : Int × Int × Heap × (Bool × Unit) × Marker × Unit) : Option (LRes (.cons cHeap (.cons (.cons .bool .nil) .nil)) (.cons .bool (.cons cHeap .nil))) := iterL (h := (.cons cI (.cons cI (.cons cHeap (.cons (.cons .bool .nil) (.cons cMarker .nil)))))) (o := (.cons cHeap (.cons (.cons .bool .nil) .nil))) (r := (.cons .bool (.cons cHeap .nil))) flotsamlaw17_ended_s0 9223372036854775808 x
def flotsamlaw17_ended_r (a0 : Heap) (a1 : Int) (a2 : List Val) : Option (Heap × Bool × Unit) :=
  (mark_New (a1, [], a2, ())).bind fun y1 =>
  bif !y1.2.1 then
    some (a0, false, ())
  else
  (flotsamref17_Bound (a0, ((y1.1.1.1, y1.1.1.2.1, y1.1.1.2.2), y1.1.2.1, y1.1.2.2.1, y1.1.2.2.2), ())).bind fun y2 =>
  (flotsamlaw17_ended_l0 (y2.1, 0, a0, (false, ()), ((y1.1.1.1, y1.1.1.2.1, y1.1.1.2.2), y1.1.2.1, y1.1.2.2.1, y1.1.2.2.2), ())).bind fun s4 => match s4 with
  | .out s4 =>
    some (s4.1, false, ())
  | .ret s4 =>
    some (s4.2.1, s4.1, ())
def flotsamlaw17_ended (x : Heap × Int × (List Val) × Unit) : Option (Heap × Bool × Unit) := flotsamlaw17_ended_r x.1 x.2.1 x.2.2.1
noncomputable def flotsamlaw17_ended_sm : Sum := ⟨(.cons cHeap (.cons cI (.cons (.sl cVal) .nil))), (.cons (.d cHeap) (.cons (.d .bool) .nil)), flotsamlaw17_ended⟩
noncomputable def flotsamlaw17_ended_L0 : LoopSum := { hc := ⟨[(.key 144 [], cMarker)], [3, 6, 8, 10, 11], [], [], [0, 16, 144], [], 304⟩, h := ⟨[(3, (.pvar 0 [])), (6, (.pvar 16 [])), (8, (.pvar 144 [])), (10, (.d cI)), (11, (.d cI))], [(0, (.d cHeap)), (16, (.cons .nilsl (.cons .nilsl (.d (.cons .bool .nil))))), (144, (.d cMarker))], [], 304⟩, xid := 0, oc := ⟨[], [3, 6], [], [], [0, 16], [], 304⟩, o := ⟨[(3, (.pvar 0 [])), (6, (.pvar 16 []))], [(0, (.d cHeap)), (16, (.cons .nilsl (.cons .nilsl (.d (.cons .bool .nil)))))], [], 304⟩, rc := ⟨[], [6, 7], [], [], [16], [], 304⟩, r := ⟨[(6, (.pvar 16 [])), (7, (.d .bool))], [(16, (.d cHeap))], [], 304⟩, F := flotsamlaw17_ended_l0 }
noncomputable def flotsamlaw17_ended_S : List (Nat × Sum) := [(13, flotsamref17_Bound_sm), (14, mark_Step_sm), (21, mark_New_sm)]
noncomputable def flotsamlaw17_ended_fl : List (Nat × Func) := []
noncomputable def flotsamlaw17_ended_es : List AE := [⟨8, 25, 0, 0, flotsamlaw17_ended_L0⟩]
theorem flotsamlaw17_ended_den0 : (fun x => denStep TEv (look1 flotsamlaw17_ended_S) (look1 flotsamlaw17_ended_fl) (annOf flotsamlaw17_ended_es) 8 25 Go.Proofs.Tryd.f25.ntmps 0 (cat (bodyOf Go.Proofs.Tryd.f25) [true, true, true, true, false, true, false, false]) flotsamlaw17_ended_L0 x) = flotsamlaw17_ended_s0 := by kernel_rfl
theorem flotsamlaw17_ended_den : (fun x => denFun TEv (look1 flotsamlaw17_ended_S) (look1 flotsamlaw17_ended_fl) (annOf flotsamlaw17_ended_es) 8 25 Go.Proofs.Tryd.f25 flotsamlaw17_ended_sm.a flotsamlaw17_ended_sm.r x) = flotsamlaw17_ended_sm.F := by kernel_rfl
theorem flotsamlaw17_ended_ok0 : AEok Go.Proofs.Tryd.prog TEv (look1 flotsamlaw17_ended_S) (look1 flotsamlaw17_ended_fl) (annOf flotsamlaw17_ended_es) ⟨8, 25, 0, 0, flotsamlaw17_ended_L0⟩ := aeok_of 9223372036854775808 Go.Proofs.Tryd.func25 (by kernel_rfl) flotsamlaw17_ended_den0 (by kernel_rfl)
theorem flotsamlaw17_ended_sem : SemOf Go.Proofs.Tryd.prog 25 flotsamlaw17_ended_sm :=
  semMk teOk (sl := flotsamlaw17_ended_S) (all_cons flotsamref17_Bound_sem (all_cons mark_Step_sem (all_cons mark_New_sem all_nil))) (fl := flotsamlaw17_ended_fl) (all_nil) (es := flotsamlaw17_ended_es) Go.Proofs.Tryd.func25 (by kernel_rfl) rfl (rng_none (by kernel_rfl) (by kernel_rfl)) (all_cons flotsamlaw17_ended_ok0 (all_nil)) rfl flotsamlaw17_ended_den

/-! ### flotsam/flotsamlaw17.MarkRooms -/
def flotsamlaw17_MarkRooms_s0r (v1 : Int) (v2 : List Val) (v8 : Int) (c0 : Heap) (r624 : List Val) : Option (SRes (.cons (.int .u8) (.cons (.sl cVal) (.cons cI (.cons cHeap (.cons (.sl cVal) .nil))))) (.cons (.int .u8) (.cons (.sl cVal) (.cons cHeap (.cons (.sl cVal) .nil)))) .nil) :=
  bif decide (v8 ≥ 0) then
    bif decide (0 ≤ v8) then
      bif decide (v8 < (v2.length : Int)) then
        bif decide ((r624.length + 1) * 16 ≤ 140737488355328) then
          some (.next (v1, v2, wi64 (v8 - 1), c0, r624 ++ [v2.getD v8.toNat (0, 0, ())], ()))
        else none
      else none
    else none
  else
  some (.fin (.out (v1, v2, c0, r624, ())))
def flotsamlaw17_MarkRooms_s0 (x : Int × (List Val) × Int × Heap × (List Val) × Unit) : Option (SRes (.cons (.int .u8) (.cons (.sl cVal) (.cons cI (.cons cHeap (.cons (.sl cVal) .nil))))) (.cons (.int .u8) (.cons (.sl cVal) (.cons cHeap (.cons (.sl cVal) .nil)))) .nil) := flotsamlaw17_MarkRooms_s0r x.1 x.2.1 x.2.2.1 x.2.2.2.1 x.2.2.2.2.1
def flotsamlaw17_MarkRooms_l0 (x : Int × (List Val) × Int × Heap × (List Val) × Unit) : Option (LRes (.cons (.int .u8) (.cons (.sl cVal) (.cons cHeap (.cons (.sl cVal) .nil)))) .nil) := iterL (h := (.cons (.int .u8) (.cons (.sl cVal) (.cons cI (.cons cHeap (.cons (.sl cVal) .nil)))))) (o := (.cons (.int .u8) (.cons (.sl cVal) (.cons cHeap (.cons (.sl cVal) .nil))))) (r := .nil) flotsamlaw17_MarkRooms_s0 9223372036854775808 x
def flotsamlaw17_MarkRooms_r (a0 : Heap) (a1 : Int) (a2 : List Val) : Option (Bool × Unit) :=
  (flotsamlaw17_awake ()).bind fun y1 =>
  bif !y1.1 then
    (flotsamlaw17_awake ()).bind fun y2 =>
    some (y2.1, ())
  else
  (flotsamref07_Form (a0, ())).bind fun y3 =>
  bif !y3.1 then
    (flotsamlaw17_awake ()).bind fun y4 =>
    some (y4.1, ())
  else
  (flotsamref08_Apart (a0, ())).bind fun y5 =>
  bif !y5.1 then
    (flotsamlaw17_awake ()).bind fun y6 =>
    some (y6.1, ())
  else
  bif decide ((a0.1.length : Int) > 128) then
    (flotsamlaw17_awake ()).bind fun y7 =>
    some (y7.1, ())
  else
  bif decide ((a2.length : Int) > 50) then
    (flotsamlaw17_awake ()).bind fun y8 =>
    some (y8.1, ())
  else
  (flotsamref15_Black ((a0.1, a0.2.1, !a0.2.2.1, a0.2.2.2), ())).bind fun y9 =>
  bif decide ((y9.1.length : Int) > 0) then
    some (true, ())
  else
  (flotsamlaw17_MarkRooms_l0 (a1, a2, wi64 ((a2.length : Int) - 1), (a0.1, a0.2.1, !a0.2.2.1, a0.2.2.2), [], ())).bind fun s10 => match s10 with
  | .out s10 =>
    (flotsamlaw17_ended (s10.2.2.1, (wi64 s10.1).tmod 17, s10.2.1, ())).bind fun y11 =>
    (flotsamlaw17_ended (s10.2.2.1, 16, s10.2.2.2.1, ())).bind fun y12 =>
    bif y11.2.1 then
      bif y12.2.1 then
        (flotsamref07_Same (y11.1, y12.1, ())).bind fun y13 =>
        some (y13.1, ())
      else
      some (false, ())
    else
    some (false, ())
  | .ret s10 =>
    none
def flotsamlaw17_MarkRooms (x : Heap × Int × (List Val) × Unit) : Option (Bool × Unit) := flotsamlaw17_MarkRooms_r x.1 x.2.1 x.2.2.1
noncomputable def flotsamlaw17_MarkRooms_sm : Sum := ⟨(.cons cHeap (.cons (.int .u8) (.cons (.sl cVal) .nil))), (.cons (.d .bool) .nil), flotsamlaw17_MarkRooms⟩
noncomputable def flotsamlaw17_MarkRooms_L0 : LoopSum := { hc := ⟨[], [1, 2, 3, 7, 8], [(.tmp 7, cVal)], [], [0], [], 624⟩, h := ⟨[(1, (.d (.int .u8))), (2, (.d (.sl cVal))), (3, (.pvar 0 [])), (7, (.row 624)), (8, (.d cI))], [(0, (.d cHeap))], [(624, cVal, true)], 625⟩, xid := 0, oc := ⟨[], [1, 2, 3, 7], [(.tmp 7, cVal)], [], [0], [], 624⟩, o := ⟨[(1, (.d (.int .u8))), (2, (.d (.sl cVal))), (3, (.pvar 0 [])), (7, (.row 624))], [(0, (.d cHeap))], [(624, cVal, true)], 625⟩, rc := ⟨[], [], [], [], [624], [], 624⟩, r := ⟨[], [], [], 624⟩, F := flotsamlaw17_MarkRooms_l0 }
noncomputable def flotsamlaw17_MarkRooms_S : List (Nat × Sum) := [(8, flotsamlaw17_awake_sm), (10, flotsamref08_Apart_sm), (11, flotsamref15_Black_sm), (20, flotsamref07_Form_sm), (23, flotsamref07_Same_sm), (25, flotsamlaw17_ended_sm)]
noncomputable def flotsamlaw17_MarkRooms_fl : List (Nat × Func) := []
noncomputable def flotsamlaw17_MarkRooms_es : List AE := [⟨8, 6, 0, 0, flotsamlaw17_MarkRooms_L0⟩]
theorem flotsamlaw17_MarkRooms_den0 : (fun x => denStep TEv (look1 flotsamlaw17_MarkRooms_S) (look1 flotsamlaw17_MarkRooms_fl) (annOf flotsamlaw17_MarkRooms_es) 8 6 Go.Proofs.Tryd.f6.ntmps 0 (cat (bodyOf Go.Proofs.Tryd.f6) [true, true, true, true, true, false, true, false, false]) flotsamlaw17_MarkRooms_L0 x) = flotsamlaw17_MarkRooms_s0 := by kernel_rfl
theorem flotsamlaw17_MarkRooms_den : (fun x => denFun TEv (look1 flotsamlaw17_MarkRooms_S) (look1 flotsamlaw17_MarkRooms_fl) (annOf flotsamlaw17_MarkRooms_es) 8 6 Go.Proofs.Tryd.f6 flotsamlaw17_MarkRooms_sm.a flotsamlaw17_MarkRooms_sm.r x) = flotsamlaw17_MarkRooms_sm.F := by kernel_rfl
theorem flotsamlaw17_MarkRooms_ok0 : AEok Go.Proofs.Tryd.prog TEv (look1 flotsamlaw17_MarkRooms_S) (look1 flotsamlaw17_MarkRooms_fl) (annOf flotsamlaw17_MarkRooms_es) ⟨8, 6, 0, 0, flotsamlaw17_MarkRooms_L0⟩ := aeok_of 9223372036854775808 Go.Proofs.Tryd.func6 (by kernel_rfl) flotsamlaw17_MarkRooms_den0 (by kernel_rfl)
theorem flotsamlaw17_MarkRooms_sem : SemOf Go.Proofs.Tryd.prog 6 flotsamlaw17_MarkRooms_sm :=
  semMk teOk (sl := flotsamlaw17_MarkRooms_S) (all_cons flotsamlaw17_awake_sem (all_cons flotsamref08_Apart_sem (all_cons flotsamref15_Black_sem (all_cons flotsamref07_Form_sem (all_cons flotsamref07_Same_sem (all_cons flotsamlaw17_ended_sem all_nil)))))) (fl := flotsamlaw17_MarkRooms_fl) (all_nil) (es := flotsamlaw17_MarkRooms_es) Go.Proofs.Tryd.func6 (by kernel_rfl) rfl (rng_none (by kernel_rfl) (by kernel_rfl)) (all_cons flotsamlaw17_MarkRooms_ok0 (all_nil)) rfl flotsamlaw17_MarkRooms_den

/-! ### flotsam/flotsamref13.Same -/
def flotsamref13_Same_r (a0 : Grey) (a1 : Grey) : Option (Bool × Unit) :=
  bif a0.1 == a1.1 then
    (flotsamref08_Ints (a0.2.1, a1.2.1, ())).bind fun y1 =>
    some (y1.1, ())
  else
  some (false, ())
def flotsamref13_Same (x : Grey × Grey × Unit) : Option (Bool × Unit) := flotsamref13_Same_r x.1 x.2.1
noncomputable def flotsamref13_Same_sm : Sum := ⟨(.cons cGrey (.cons cGrey .nil)), (.cons (.d .bool) .nil), flotsamref13_Same⟩
noncomputable def flotsamref13_Same_S : List (Nat × Sum) := [(16, flotsamref08_Ints_sm)]
noncomputable def flotsamref13_Same_fl : List (Nat × Func) := []
noncomputable def flotsamref13_Same_es : List AE := []
theorem flotsamref13_Same_den : (fun x => denFun TEv (look1 flotsamref13_Same_S) (look1 flotsamref13_Same_fl) (annOf flotsamref13_Same_es) 8 48 Go.Proofs.Tryd.f48 flotsamref13_Same_sm.a flotsamref13_Same_sm.r x) = flotsamref13_Same_sm.F := by kernel_rfl
theorem flotsamref13_Same_sem : SemOf Go.Proofs.Tryd.prog 48 flotsamref13_Same_sm :=
  semMk teOk (sl := flotsamref13_Same_S) (all_cons flotsamref08_Ints_sem all_nil) (fl := flotsamref13_Same_fl) (all_nil) (es := flotsamref13_Same_es) Go.Proofs.Tryd.func48 (by kernel_rfl) rfl (rng_none (by kernel_rfl) (by kernel_rfl)) (all_nil) rfl flotsamref13_Same_den

/-! ### flotsam/flotsamref01.Same -/
def flotsamref01_Same_s0r (v0 : List Val) (v1 : List Val) (v5 : Int) : Option (SRes (.cons (.sl cVal) (.cons (.sl cVal) (.cons cI .nil))) .nil (.cons .bool .nil)) :=
  bif decide (v5 < (v0.length : Int)) then
    bif decide (0 ≤ v5) then
      bif decide (v5 < (v0.length : Int)) then
        bif decide (0 ≤ v5) then
          bif decide (v5 < (v1.length : Int)) then
            bif !(((v0.getD v5.toNat (0, 0, ())).1 == (v1.getD v5.toNat (0, 0, ())).1) && (((v0.getD v5.toNat (0, 0, ())).2.1 == (v1.getD v5.toNat (0, 0, ())).2.1) && true)) then
              some (.fin (.ret (false, ())))
            else
            some (.next (v0, v1, wi64 (v5 + 1), ()))
          else none
        else none
      else none
    else none
  else
  some (.fin (.out ()))
def flotsamref01_Same_s0 (x : (List Val) × (List Val) × Int × Unit) : Option (SRes (.cons (.sl cVal) (.cons (.sl cVal) (.cons cI .nil))) .nil (.cons .bool .nil)) := flotsamref01_Same_s0r x.1 x.2.1 x.2.2.1
def flotsamref01_Same_l0 (x : (List Val) × (List Val) × Int × Unit) : Option (LRes .nil (.cons .bool .nil)) := iterL (h := (.cons (.sl cVal) (.cons (.sl cVal) (.cons cI .nil)))) (o := .nil) (r := (.cons .bool .nil)) flotsamref01_Same_s0 9223372036854775808 x
def flotsamref01_Same_r (a0 : List Val) (a1 : List Val) : Option (Bool × Unit) :=
  bif (a0.length : Int) != (a1.length : Int) then
    some (false, ())
  else
  (flotsamref01_Same_l0 (a0, a1, 0, ())).bind fun s1 => match s1 with
  | .out s1 =>
    some (true, ())
  | .ret s1 =>
    some (s1.1, ())
def flotsamref01_Same (x : (List Val) × (List Val) × Unit) : Option (Bool × Unit) := flotsamref01_Same_r x.1 x.2.1
noncomputable def flotsamref01_Same_sm : Sum := ⟨(.cons (.sl cVal) (.cons (.sl cVal) .nil)), (.cons (.d .bool) .nil), flotsamref01_Same⟩
noncomputable def flotsamref01_Same_L0 : LoopSum := { hc := ⟨[], [0, 1, 5], [], [], [], [], 112⟩, h := ⟨[(0, (.d (.sl cVal))), (1, (.d (.sl cVal))), (5, (.d cI))], [], [], 112⟩, xid := 0, oc := ⟨[], [], [], [], [], [], 112⟩, o := ⟨[], [], [], 112⟩, rc := ⟨[], [4], [], [], [], [], 112⟩, r := ⟨[(4, (.d .bool))], [], [], 112⟩, F := flotsamref01_Same_l0 }
noncomputable def flotsamref01_Same_S : List (Nat × Sum) := []
noncomputable def flotsamref01_Same_fl : List (Nat × Func) := []
noncomputable def flotsamref01_Same_es : List AE := [⟨8, 49, 0, 0, flotsamref01_Same_L0⟩]
theorem flotsamref01_Same_den0 : (fun x => denStep TEv (look1 flotsamref01_Same_S) (look1 flotsamref01_Same_fl) (annOf flotsamref01_Same_es) 8 49 Go.Proofs.Tryd.f49.ntmps 0 (cat (bodyOf Go.Proofs.Tryd.f49) [true, true, false, true, false, false]) flotsamref01_Same_L0 x) = flotsamref01_Same_s0 := by kernel_rfl
theorem flotsamref01_Same_den : (fun x => denFun TEv (look1 flotsamref01_Same_S) (look1 flotsamref01_Same_fl) (annOf flotsamref01_Same_es) 8 49 Go.Proofs.Tryd.f49 flotsamref01_Same_sm.a flotsamref01_Same_sm.r x) = flotsamref01_Same_sm.F := by kernel_rfl
theorem flotsamref01_Same_ok0 : AEok Go.Proofs.Tryd.prog TEv (look1 flotsamref01_Same_S) (look1 flotsamref01_Same_fl) (annOf flotsamref01_Same_es) ⟨8, 49, 0, 0, flotsamref01_Same_L0⟩ := aeok_of 9223372036854775808 Go.Proofs.Tryd.func49 (by kernel_rfl) flotsamref01_Same_den0 (by kernel_rfl)
theorem flotsamref01_Same_sem : SemOf Go.Proofs.Tryd.prog 49 flotsamref01_Same_sm :=
  semMk teOk (sl := flotsamref01_Same_S) (all_nil) (fl := flotsamref01_Same_fl) (all_nil) (es := flotsamref01_Same_es) Go.Proofs.Tryd.func49 (by kernel_rfl) rfl (rng_none (by kernel_rfl) (by kernel_rfl)) (all_cons flotsamref01_Same_ok0 (all_nil)) rfl flotsamref01_Same_den

/-! ### flotsam/flotsamref17.Same -/
def flotsamref17_Same_s0r (v5 : Int) (c0 : Marker) (c16 : Marker) : Option (SRes (.cons cI (.cons cMarker (.cons cMarker .nil))) .nil (.cons .bool .nil)) :=
  bif decide (v5 < (c0.2.1.length : Int)) then
    bif decide (0 ≤ v5) then
      bif decide (v5 < (c0.2.1.length : Int)) then
        bif decide (0 ≤ v5) then
          bif decide (v5 < (c16.2.1.length : Int)) then
            (flotsamref13_Same (c0.2.1.getD v5.toNat (0, [], ()), c16.2.1.getD v5.toNat (0, [], ()), ())).bind fun y3 =>
            bif !y3.1 then
              some (.fin (.ret (false, ())))
            else
            some (.next (wi64 (v5 + 1), c0, c16, ()))
          else none
        else none
      else none
    else none
  else
  some (.fin (.out ()))
def flotsamref17_Same_s0 (x : Int × Marker × Marker × Unit) : Option (SRes (.cons cI (.cons cMarker (.cons cMarker .nil))) .nil (.cons .bool .nil)) := flotsamref17_Same_s0r x.1 x.2.1 x.2.2.1
def flotsamref17_Same_l0 (x : Int × Marker × Marker × Unit) : Option (LRes .nil (.cons .bool .nil)) := iterL (h := (.cons cI (.cons cMarker (.cons cMarker .nil)))) (o := .nil) (r := (.cons .bool .nil)) flotsamref17_Same_s0 9223372036854775808 x
def flotsamref17_Same_r (a0 : Marker) (a1 : Marker) : Option (Bool × Unit) :=
  bif a0.2.2.2.1 != a1.2.2.2.1 then
    some (false, ())
  else
  bif a0.2.2.2.2.1 != a1.2.2.2.2.1 then
    some (false, ())
  else
  bif a0.2.2.2.2.2.1 != a1.2.2.2.2.2.1 then
    some (false, ())
  else
  bif !(a0.2.2.2.2.2.2.1 == a1.2.2.2.2.2.2.1) then
    some (false, ())
  else
  (flotsamref13_Same (a0.1, a1.1, ())).bind fun y1 =>
  bif !y1.1 then
    some (false, ())
  else
  (flotsamref01_Same (a0.2.2.1, a1.2.2.1, ())).bind fun y2 =>
  bif !y2.1 then
    some (false, ())
  else
  bif (a0.2.1.length : Int) != (a1.2.1.length : Int) then
    some (false, ())
  else
  (flotsamref17_Same_l0 (0, a0, a1, ())).bind fun s4 => match s4 with
  | .out s4 =>
    some (true, ())
  | .ret s4 =>
    some (s4.1, ())
def flotsamref17_Same (x : Marker × Marker × Unit) : Option (Bool × Unit) := flotsamref17_Same_r x.1 x.2.1
noncomputable def flotsamref17_Same_sm : Sum := ⟨(.cons cMarker (.cons cMarker .nil)), (.cons (.d .bool) .nil), flotsamref17_Same⟩
noncomputable def flotsamref17_Same_L0 : LoopSum := { hc := ⟨[], [2, 3, 5], [], [], [0, 16], [], 880⟩, h := ⟨[(2, (.pvar 0 [])), (3, (.pvar 16 [])), (5, (.d cI))], [(0, (.d cMarker)), (16, (.d cMarker))], [], 880⟩, xid := 0, oc := ⟨[], [], [], [], [], [], 880⟩, o := ⟨[], [], [], 880⟩, rc := ⟨[], [4], [], [], [], [], 880⟩, r := ⟨[(4, (.d .bool))], [], [], 880⟩, F := flotsamref17_Same_l0 }
noncomputable def flotsamref17_Same_S : List (Nat × Sum) := [(48, flotsamref13_Same_sm), (49, flotsamref01_Same_sm)]
noncomputable def flotsamref17_Same_fl : List (Nat × Func) := []
noncomputable def flotsamref17_Same_es : List AE := [⟨8, 24, 0, 0, flotsamref17_Same_L0⟩]
theorem flotsamref17_Same_den0 : (fun x => denStep TEv (look1 flotsamref17_Same_S) (look1 flotsamref17_Same_fl) (annOf flotsamref17_Same_es) 8 24 Go.Proofs.Tryd.f24.ntmps 0 (cat (bodyOf Go.Proofs.Tryd.f24) [true, true, false, true, false, false]) flotsamref17_Same_L0 x) = flotsamref17_Same_s0 := by kernel_rfl
theorem flotsamref17_Same_den : (fun x => denFun TEv (look1 flotsamref17_Same_S) (look1 flotsamref17_Same_fl) (annOf flotsamref17_Same_es) 8 24 Go.Proofs.Tryd.f24 flotsamref17_Same_sm.a flotsamref17_Same_sm.r x) = flotsamref17_Same_sm.F := by kernel_rfl
theorem flotsamref17_Same_ok0 : AEok Go.Proofs.Tryd.prog TEv (look1 flotsamref17_Same_S) (look1 flotsamref17_Same_fl) (annOf flotsamref17_Same_es) ⟨8, 24, 0, 0, flotsamref17_Same_L0⟩ := aeok_of 9223372036854775808 Go.Proofs.Tryd.func24 (by kernel_rfl) flotsamref17_Same_den0 (by kernel_rfl)
theorem flotsamref17_Same_sem : SemOf Go.Proofs.Tryd.prog 24 flotsamref17_Same_sm :=
  semMk teOk (sl := flotsamref17_Same_S) (all_cons flotsamref13_Same_sem (all_cons flotsamref01_Same_sem all_nil)) (fl := flotsamref17_Same_fl) (all_nil) (es := flotsamref17_Same_es) Go.Proofs.Tryd.func24 (by kernel_rfl) rfl (rng_none (by kernel_rfl) (by kernel_rfl)) (all_cons flotsamref17_Same_ok0 (all_nil)) rfl flotsamref17_Same_den

/-! ### flotsam/flotsamlaw17.MarkKeeps -/
def flotsamlaw17_MarkKeeps_s0r (v2 : Int) (v11 : Int) (c0 : Heap) (c16 : Marker) (c32 : Val) (c368 : Bool × Unit) (c416_0 : Int) (c416_1 : Unit) (c416_2 : Int × Int × Int × Bool × Unit) (r240 : List Int) (r304 : List Span) (r496 : List Val) (r608 : List Int) (r720 : List Grey) : Option (SRes (.cons (.int .u8) (.cons cI (.cons cHeap (.cons cMarker (.cons cVal (.cons (.cons .bool .nil) (.cons cI (.cons .nil (.cons (.cons cI (.cons cI (.cons cI (.cons .bool .nil)))) (.cons (.sl (.int .u64)) (.cons (.sl cSpan) (.cons (.sl cVal) (.cons (.sl cI) (.cons (.sl cGrey) .nil)))))))))))))) (.cons (.int .u8) (.cons cHeap (.cons cMarker (.cons cVal (.cons (.cons .bool .nil) (.cons cI (.cons .nil (.cons (.cons cI (.cons cI (.cons cI (.cons .bool .nil)))) (.cons (.sl (.int .u64)) (.cons (.sl cSpan) (.cons (.sl cVal) (.cons (.sl cI) (.cons (.sl cGrey) .nil))))))))))))) .nil) :=
  bif decide (v11 < (c16.2.1.length : Int)) then
    bif decide (0 ≤ v11) then
      bif decide (v11 < (c16.2.1.length : Int)) then
        bif decide (0 ≤ v11) then
          bif decide (v11 < (c16.2.1.length : Int)) then
            bif decide ((0 + (c16.2.1.getD v11.toNat (0, [], ())).2.1.length) * 8 ≤ 140737488355328) then
              bif decide ((r720.length + 1) * 32 ≤ 140737488355328) then
                some (.next (v2, wi64 (v11 + 1), c0, c16, c32, c368, c416_0, c416_1, c416_2, r240, r304, r496, r608, r720 ++ [((c16.2.1.getD v11.toNat (0, [], ())).1, (c16.2.1.getD v11.toNat (0, [], ())).2.1, ())], ()))
              else none
            else none
          else none
        else none
      else none
    else none
  else
  some (.fin (.out (v2, c0, c16, c32, c368, c416_0, c416_1, c416_2, r240, r304, r496, r608, r720, ())))
def flotsamlaw17_MarkKeeps_s0 (x : Int × Int × Heap × Marker × Val × (Bool × Unit) × Int × Unit × (Int × Int × Int × Bool × Unit) × (List Int) × (List Span) × (List Val) × (List Int) × (List Grey) × Unit) : Option (SRes (.cons (.int .u8) (.cons cI (.cons cHeap (.cons cMarker (.cons cVal (.cons (.cons .bool .nil) (.cons cI (.cons .nil (.cons (.cons cI (.cons cI (.cons cI (.cons .bool .nil)))) (.cons (.sl (.int .u64)) (.cons (.sl cSpan) (.cons (.sl cVal) (.cons (.sl cI) (.cons (.sl cGrey) .nil)))))))))))))) (.cons (.int .u8) (.cons cHeap (.cons cMarker (.cons cVal (.cons (.cons .bool .nil) (.cons cI (.cons .nil (.cons (.cons cI (.cons cI (.cons cI (.cons .bool .nil)))) (.cons (.sl (.int .u64)) (.cons (.sl cSpan) (.cons (.sl cVal) (.cons (.sl cI) (.cons (.sl cGrey) .nil))))))))))))) .nil) := flotsamlaw17_MarkKeeps_s0r x.1 x.2.1 x.2.2.1 x.2.2.2.1 x.2.2.2.2.1 x.2.2.2.2.2.1 x.2.2.2.2.2.2.1 x.2.2.2.2.2.2.2.1 x.2.2.2.2.2.2.2.2.1 x.2.2.2.2.2.2.2.2.2.1 x.2.2.2.2.2.2.2.2.2.2.1 x.2.2.2.2.2.2.2.2.2.2.2.1 x.2.2.2.2.2.2.2.2.2.2.2.2.1 x.2.2.2.2.2.2.2.2.2.2.2.2.2.1
def flotsamlaw17_MarkKeeps_l0 (x : Int × Int × Heap × Marker × Val × (Bool × Unit) × Int × Unit × (Int × Int × Int × Bool × Unit) × (List Int) × (List Span) × (List Val) × (List Int) × (List Grey) × Unit) : Option (LRes (.cons (.int .u8) (.cons cHeap (.cons cMarker (.cons cVal (.cons (.cons .bool .nil) (.cons cI (.cons .nil (.cons (.cons cI (.cons cI (.cons cI (.cons .bool .nil)))) (.cons (.sl (.int .u64)) (.cons (.sl cSpan) (.cons (.sl cVal) (.cons (.sl cI) (.cons (.sl cGrey) .nil))))))))))))) .nil) := iterL (h := (.cons (.int .u8) (.cons cI (.cons cHeap (.cons cMarker (.cons cVal (.cons (.cons .bool .nil) (.cons cI (.cons .nil (.cons (.cons cI (.cons cI (.cons cI (.cons .bool .nil)))) (.cons (.sl (.int .u64)) (.cons (.sl cSpan) (.cons (.sl cVal) (.cons (.sl cI) (.cons (.sl cGrey) .nil))))))))))))))) (o := (.cons (.int .u8) (.cons cHeap (.cons cMarker (.cons cVal (.cons (.cons .bool .nil) (.cons cI (.cons .nil (.cons (.cons cI (.cons cI (.cons cI (.cons .bool .nil)))) (.cons (.sl (.int .u64)) (.cons (.sl cSpan) (.cons (.sl cVal) (.cons (.sl cI) (.cons (.sl cGrey) .nil)))))))))))))) (r := .nil) flotsamlaw17_MarkKeeps_s0 9223372036854775808 x
def flotsamlaw17_MarkKeeps_r (a0 : Heap) (a1 : Marker) (a2 : Int) (a3 : Val) : Option (Bool × Unit) :=
  (flotsamlaw17_awake ()).bind fun y1 =>
  bif !y1.1 then
    (flotsamlaw17_awake ()).bind fun y2 =>
    some (y2.1, ())
  else
  (flotsamlaw17_fits (a0, a1, ())).bind fun y3 =>
  bif !y3.1 then
    (flotsamlaw17_awake ()).bind fun y4 =>
    some (y4.1, ())
  else
  bif decide ((0 + a0.1.length) * 8 ≤ 140737488355328) then
    bif decide ((0 + a0.2.1.length) * 24 ≤ 140737488355328) then
      bif decide ((0 + a1.2.2.1.length) * 16 ≤ 140737488355328) then
        bif decide ((0 + a1.1.2.1.length) * 8 ≤ 140737488355328) then
          (flotsamlaw17_MarkKeeps_l0 (a2, 0, a0, a1, a3, (a0.2.2.1, ()), a1.1.1, a1.1.2.2, a1.2.2.2, a0.1, a0.2.1, a1.2.2.1, a1.1.2.1, [], ())).bind fun s5 => match s5 with
          | .out s5 =>
            (mark_Step ((s5.2.2.2.2.2.2.2.2.1, s5.2.2.2.2.2.2.2.2.2.1, s5.2.2.2.2.1), ((s5.2.2.2.2.2.1, s5.2.2.2.2.2.2.2.2.2.2.2.1, s5.2.2.2.2.2.2.1), s5.2.2.2.2.2.2.2.2.2.2.2.2.1, s5.2.2.2.2.2.2.2.2.2.2.1, s5.2.2.2.2.2.2.2.1), ())).bind fun y6 =>
            bif decide ((s5.2.2.2.2.2.2.2.2.2.2.2.2.1.length : Int) > 0) then
              bif (s5.2.2.2.2.2.2.2.2.2.2.2.2.1.length : Int) == 0 then none else
              (mark_Note ((s5.2.2.2.2.2.2.2.2.1, s5.2.2.2.2.2.2.2.2.2.1, s5.2.2.2.2.1), ((s5.2.2.2.2.2.1, s5.2.2.2.2.2.2.2.2.2.2.2.1, s5.2.2.2.2.2.2.1), s5.2.2.2.2.2.2.2.2.2.2.2.2.1, s5.2.2.2.2.2.2.2.2.2.2.1, s5.2.2.2.2.2.2.2.1), (wi64 s5.1).tmod (s5.2.2.2.2.2.2.2.2.2.2.2.2.1.length : Int), s5.2.2.2.1, ())).bind fun y7 =>
              (flotsamref07_Same ((s5.2.2.2.2.2.2.2.2.1, s5.2.2.2.2.2.2.2.2.2.1, s5.2.2.2.2.1), s5.2.1, ())).bind fun y8 =>
              bif y8.1 then
                (flotsamref17_Same (((s5.2.2.2.2.2.1, s5.2.2.2.2.2.2.2.2.2.2.2.1, s5.2.2.2.2.2.2.1), s5.2.2.2.2.2.2.2.2.2.2.2.2.1, s5.2.2.2.2.2.2.2.2.2.2.1, s5.2.2.2.2.2.2.2.1), s5.2.2.1, ())).bind fun y9 =>
                some (y9.1, ())
              else
              some (false, ())
            else
            (flotsamref07_Same ((s5.2.2.2.2.2.2.2.2.1, s5.2.2.2.2.2.2.2.2.2.1, s5.2.2.2.2.1), s5.2.1, ())).bind fun y10 =>
            bif y10.1 then
              (flotsamref17_Same (((s5.2.2.2.2.2.1, s5.2.2.2.2.2.2.2.2.2.2.2.1, s5.2.2.2.2.2.2.1), s5.2.2.2.2.2.2.2.2.2.2.2.2.1, s5.2.2.2.2.2.2.2.2.2.2.1, s5.2.2.2.2.2.2.2.1), s5.2.2.1, ())).bind fun y11 =>
              some (y11.1, ())
            else
            some (false, ())
          | .ret s5 =>
            none
        else none
      else none
    else none
  else none
def flotsamlaw17_MarkKeeps (x : Heap × Marker × Int × Val × Unit) : Option (Bool × Unit) := flotsamlaw17_MarkKeeps_r x.1 x.2.1 x.2.2.1 x.2.2.2.1
noncomputable def flotsamlaw17_MarkKeeps_sm : Sum := ⟨(.cons cHeap (.cons cMarker (.cons (.int .u8) (.cons cVal .nil)))), (.cons (.d .bool) .nil), flotsamlaw17_MarkKeeps⟩
noncomputable def flotsamlaw17_MarkKeeps_L0 : LoopSum := { hc := ⟨[], [2, 4, 5, 7, 9, 10, 11], [(.key 416 [.fld 1], cGrey)], [], [0, 16, 32, 368, 416], [240, 304, 496, 608], 720⟩, h := ⟨[(2, (.d (.int .u8))), (4, (.pvar 0 [])), (5, (.pvar 16 [])), (7, (.pvar 32 [])), (9, (.pvar 368 [])), (10, (.pvar 416 [])), (11, (.d cI))], [(0, (.d cHeap)), (16, (.d cMarker)), (32, (.d cVal)), (368, (.cons (.row 240) (.cons (.row 304) (.d (.cons .bool .nil))))), (416, (.cons (.cons (.d cI) (.cons (.row 608) (.d .nil))) (.cons (.row 720) (.cons (.row 496) (.d (.cons cI (.cons cI (.cons cI (.cons .bool .nil)))))))))], [(240, (.int .u64), true), (304, cSpan, true), (496, cVal, true), (608, cI, true), (720, cGrey, true)], 721⟩, xid := 0, oc := ⟨[], [2, 4, 5, 7, 9, 10], [(.ptr 10 [.fld 1], cGrey)], [], [0, 16, 32, 368, 416], [240, 304, 496, 608], 720⟩, o := ⟨[(2, (.d (.int .u8))), (4, (.pvar 0 [])), (5, (.pvar 16 [])), (7, (.pvar 32 [])), (9, (.pvar 368 [])), (10, (.pvar 416 []))], [(0, (.d cHeap)), (16, (.d cMarker)), (32, (.d cVal)), (368, (.cons (.row 240) (.cons (.row 304) (.d (.cons .bool .nil))))), (416, (.cons (.cons (.d cI) (.cons (.row 608) (.d .nil))) (.cons (.row 720) (.cons (.row 496) (.d (.cons cI (.cons cI (.cons cI (.cons .bool .nil)))))))))], [(240, (.int .u64), true), (304, cSpan, true), (496, cVal, true), (608, cI, true), (720, cGrey, true)], 721⟩, rc := ⟨[], [], [], [], [720], [], 720⟩, r := ⟨[], [], [], 720⟩, F := flotsamlaw17_MarkKeeps_l0 }
noncomputable def flotsamlaw17_MarkKeeps_S : List (Nat × Sum) := [(8, flotsamlaw17_awake_sm), (9, flotsamlaw17_fits_sm), (14, mark_Step_sm), (22, mark_Note_sm), (23, flotsamref07_Same_sm), (24, flotsamref17_Same_sm)]
noncomputable def flotsamlaw17_MarkKeeps_fl : List (Nat × Func) := []
noncomputable def flotsamlaw17_MarkKeeps_es : List AE := [⟨8, 5, 0, 0, flotsamlaw17_MarkKeeps_L0⟩]
theorem flotsamlaw17_MarkKeeps_den0 : (fun x => denStep TEv (look1 flotsamlaw17_MarkKeeps_S) (look1 flotsamlaw17_MarkKeeps_fl) (annOf flotsamlaw17_MarkKeeps_es) 8 5 Go.Proofs.Tryd.f5.ntmps 0 (cat (bodyOf Go.Proofs.Tryd.f5) [true, true, true, true, true, true, true, false, true, false, false]) flotsamlaw17_MarkKeeps_L0 x) = flotsamlaw17_MarkKeeps_s0 := by kernel_rfl
theorem flotsamlaw17_MarkKeeps_den : (fun x => denFun TEv (look1 flotsamlaw17_MarkKeeps_S) (look1 flotsamlaw17_MarkKeeps_fl) (annOf flotsamlaw17_MarkKeeps_es) 8 5 Go.Proofs.Tryd.f5 flotsamlaw17_MarkKeeps_sm.a flotsamlaw17_MarkKeeps_sm.r x) = flotsamlaw17_MarkKeeps_sm.F := by kernel_rfl
theorem flotsamlaw17_MarkKeeps_ok0 : AEok Go.Proofs.Tryd.prog TEv (look1 flotsamlaw17_MarkKeeps_S) (look1 flotsamlaw17_MarkKeeps_fl) (annOf flotsamlaw17_MarkKeeps_es) ⟨8, 5, 0, 0, flotsamlaw17_MarkKeeps_L0⟩ := aeok_of 9223372036854775808 Go.Proofs.Tryd.func5 (by kernel_rfl) flotsamlaw17_MarkKeeps_den0 (by kernel_rfl)
theorem flotsamlaw17_MarkKeeps_sem : SemOf Go.Proofs.Tryd.prog 5 flotsamlaw17_MarkKeeps_sm :=
  semMk teOk (sl := flotsamlaw17_MarkKeeps_S) (all_cons flotsamlaw17_awake_sem (all_cons flotsamlaw17_fits_sem (all_cons mark_Step_sem (all_cons mark_Note_sem (all_cons flotsamref07_Same_sem (all_cons flotsamref17_Same_sem all_nil)))))) (fl := flotsamlaw17_MarkKeeps_fl) (all_nil) (es := flotsamlaw17_MarkKeeps_es) Go.Proofs.Tryd.func5 (by kernel_rfl) rfl (rng_none (by kernel_rfl) (by kernel_rfl)) (all_cons flotsamlaw17_MarkKeeps_ok0 (all_nil)) rfl flotsamlaw17_MarkKeeps_den
end Go.Proofs.YtdiogegolnoeoaaDoor.Den
