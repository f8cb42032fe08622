/- What functions come to. Printed by a program of this session. -/
import Derived.Test.YtdfhopakojmjkaaDoorDenFo0
namespace Go.Proofs.YtdfhopakojmjkaaDoor.Den
open Go
set_option maxRecDepth 100000
set_option linter.unusedVariables false
/-! ### flotsam/flotsamlaw08.ObjectLists -/
def flotsamlaw08_ObjectLists_s0r (v1 : Int) (v6 : Int) (c0 : Heap) (r160 : List Int) : Option (SRes (.cons cI (.cons cI (.cons cHeap (.cons (.sl cI) .nil)))) (.cons cI (.cons cHeap (.cons (.sl cI) .nil))) (.cons .bool .nil)) :=
  bif decide (v6 < (r160.length : Int)) then
    bif decide (0 ≤ v6) then
      bif decide (v6 < (r160.length : Int)) then
        (object_Get (c0, r160.getD v6.toNat 0, ())).bind fun y6 =>
        bif !y6.2.1 then
          some (.fin (.ret (false, ())))
        else
        bif decide (v6 > 0) then
          bif decide (0 ≤ (wi64 (v6 - 1))) then
            bif decide ((wi64 (v6 - 1)) < (r160.length : Int)) then
              bif decide (0 ≤ v6) then
                bif decide (v6 < (r160.length : Int)) then
                  bif decide ((r160.getD (wi64 (v6 - 1)).toNat 0) ≥ (r160.getD v6.toNat 0)) then
                    some (.fin (.ret (false, ())))
                  else
                  bif decide (0 ≤ v6) then
                    bif decide (v6 < (r160.length : Int)) then
                      (object_Refs (c0, r160.getD v6.toNat 0, ())).bind fun y7 =>
                      bif decide ((y7.1.length : Int) > y6.1.2.2.2.1) then
                        some (.fin (.ret (false, ())))
                      else
                      some (.next (v1, wi64 (v6 + 1), c0, r160, ()))
                    else none
                  else none
                else none
              else none
            else none
          else none
        else
        bif decide (0 ≤ v6) then
          bif decide (v6 < (r160.length : Int)) then
            (object_Refs (c0, r160.getD v6.toNat 0, ())).bind fun y8 =>
            bif decide ((y8.1.length : Int) > y6.1.2.2.2.1) then
              some (.fin (.ret (false, ())))
            else
            some (.next (v1, wi64 (v6 + 1), c0, r160, ()))
          else none
        else none
      else none
    else none
  else
  some (.fin (.out (v1, c0, r160, ())))
def flotsamlaw08_ObjectLists_s0 (x : Int × Int × Heap × (List Int) × Unit) : Option (SRes (.cons cI (.cons cI (.cons cHeap (.cons (.sl cI) .nil)))) (.cons cI (.cons cHeap (.cons (.sl cI) .nil))) (.cons .bool .nil)) := flotsamlaw08_ObjectLists_s0r x.1 x.2.1 x.2.2.1 x.2.2.2.1
def flotsamlaw08_ObjectLists_l0 (x : Int × Int × Heap × (List Int) × Unit) : Option (LRes (.cons cI (.cons cHeap (.cons (.sl cI) .nil))) (.cons .bool .nil)) := iterL (h := (.cons cI (.cons cI (.cons cHeap (.cons (.sl cI) .nil))))) (o := (.cons cI (.cons cHeap (.cons (.sl cI) .nil)))) (r := (.cons .bool .nil)) flotsamlaw08_ObjectLists_s0 9223372036854775808 x
def flotsamlaw08_ObjectLists_r (a0 : Heap) (a1 : Int) : Option (Bool × Unit) :=
  (flotsamlaw08_awake ()).bind fun y1 =>
  bif !y1.1 then
    (flotsamlaw08_awake ()).bind fun y2 =>
    some (y2.1, ())
  else
  (flotsamref07_Form (a0, ())).bind fun y3 =>
  bif !y3.1 then
    (flotsamlaw08_awake ()).bind fun y4 =>
    some (y4.1, ())
  else
  (object_List (a0, ())).bind fun y5 =>
  (flotsamlaw08_ObjectLists_l0 (a1, 0, a0, y5.1, ())).bind fun s9 => match s9 with
  | .out s9 =>
    (object_Get (s9.2.1, s9.1, ())).bind fun y10 =>
    (flotsamref08_In (s9.2.2.1, s9.1, ())).bind fun y11 =>
    some (y10.2.1 == y11.1, ())
  | .ret s9 =>
    some (s9.1, ())
def flotsamlaw08_ObjectLists (x : Heap × Int × Unit) : Option (Bool × Unit) := flotsamlaw08_ObjectLists_r x.1 x.2.1
noncomputable def flotsamlaw08_ObjectLists_sm : Sum := ⟨(.cons cHeap (.cons cI .nil)), (.cons (.d .bool) .nil), flotsamlaw08_ObjectLists⟩
noncomputable def flotsamlaw08_ObjectLists_L0 : LoopSum := { hc := ⟨[], [1, 2, 5, 6], [], [], [0], [160], 208⟩, h := ⟨[(1, (.d cI)), (2, (.pvar 0 [])), (5, (.row 160)), (6, (.d cI))], [(0, (.d cHeap))], [(160, cI, true)], 208⟩, xid := 0, oc := ⟨[], [1, 2, 5], [], [], [0], [160], 208⟩, o := ⟨[(1, (.d cI)), (2, (.pvar 0 [])), (5, (.row 160))], [(0, (.d cHeap))], [(160, cI, true)], 208⟩, rc := ⟨[], [4], [], [], [], [], 208⟩, r := ⟨[(4, (.d .bool))], [], [], 208⟩, F := flotsamlaw08_ObjectLists_l0 }
noncomputable def flotsamlaw08_ObjectLists_S : List (Nat × Sum) := [(21, flotsamref07_Form_sm), (29, flotsamref08_In_sm), (35, flotsamlaw08_awake_sm), (40, object_List_sm), (41, object_Get_sm), (42, object_Refs_sm)]
noncomputable def flotsamlaw08_ObjectLists_fl : List (Nat × Func) := []
noncomputable def flotsamlaw08_ObjectLists_es : List AE := [⟨8, 9, 0, 0, flotsamlaw08_ObjectLists_L0⟩]
theorem flotsamlaw08_ObjectLists_den0 : (fun x => denStep TEv (look1 flotsamlaw08_ObjectLists_S) (look1 flotsamlaw08_ObjectLists_fl) (annOf flotsamlaw08_ObjectLists_es) 8 9 Go.Proofs.Tryd.f9.ntmps 0 (cat (bodyOf Go.Proofs.Tryd.f9) [true, true, true, false, true, false, false]) flotsamlaw08_ObjectLists_L0 x) = flotsamlaw08_ObjectLists_s0 := by kernel_rfl
theorem flotsamlaw08_ObjectLists_den : (fun x => denFun TEv (look1 flotsamlaw08_ObjectLists_S) (look1 flotsamlaw08_ObjectLists_fl) (annOf flotsamlaw08_ObjectLists_es) 8 9 Go.Proofs.Tryd.f9 flotsamlaw08_ObjectLists_sm.a flotsamlaw08_ObjectLists_sm.r x) = flotsamlaw08_ObjectLists_sm.F := by kernel_rfl
theorem flotsamlaw08_ObjectLists_ok0 : AEok Go.Proofs.Tryd.prog TEv (look1 flotsamlaw08_ObjectLists_S) (look1 flotsamlaw08_ObjectLists_fl) (annOf flotsamlaw08_ObjectLists_es) ⟨8, 9, 0, 0, flotsamlaw08_ObjectLists_L0⟩ := aeok_of 9223372036854775808 Go.Proofs.Tryd.func9 (by kernel_rfl) flotsamlaw08_ObjectLists_den0 (by kernel_rfl)
theorem flotsamlaw08_ObjectLists_sem : SemOf Go.Proofs.Tryd.prog 9 flotsamlaw08_ObjectLists_sm :=
  semMk teOk (sl := flotsamlaw08_ObjectLists_S) (all_cons flotsamref07_Form_sem (all_cons flotsamref08_In_sem (all_cons flotsamlaw08_awake_sem (all_cons object_List_sem (all_cons object_Get_sem (all_cons object_Refs_sem all_nil)))))) (fl := flotsamlaw08_ObjectLists_fl) (all_nil) (es := flotsamlaw08_ObjectLists_es) Go.Proofs.Tryd.func9 (by kernel_rfl) rfl (rng_none (by kernel_rfl) (by kernel_rfl)) (all_cons flotsamlaw08_ObjectLists_ok0 (all_nil)) rfl flotsamlaw08_ObjectLists_den
end Go.Proofs.YtdfhopakojmjkaaDoor.Den
