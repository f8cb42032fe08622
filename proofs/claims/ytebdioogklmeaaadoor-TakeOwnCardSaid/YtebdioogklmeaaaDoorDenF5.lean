/- What functions come to. Printed by a program of this session. -/
import Derived.Test.YtebdioogklmeaaaDoorDenF4
namespace Go.Proofs.YtebdioogklmeaaaDoor.Den
open Go
set_option maxRecDepth 100000
set_option linter.unusedVariables false
/-! ### flotsam/flotsamlaw11.TakeTakes -/
def flotsamlaw11_TakeTakes_r (a0 : Heap) (a1 : List (List Int)) (a2 : Int) (a3 : Int) : Option (Bool × Unit) :=
  (flotsamlaw11_awake ()).bind fun y1 =>
  bif !y1.1 then
    (flotsamlaw11_awake ()).bind fun y2 =>
    some (y2.1, ())
  else
  (flotsamlaw11_right (a0, a1, a2, ())).bind fun y3 =>
  bif !y3.1 then
    (flotsamlaw11_awake ()).bind fun y4 =>
    some (y4.1, ())
  else
  (take_Take (a0, a1, a2, a3, ())).bind fun y5 =>
  (flotsamref11_Take (a0, a1, a2, a3, ())).bind fun y6 =>
  (flotsamref07_Same (y5.1, y6.1, ())).bind fun y7 =>
  bif y7.1 then
    (flotsamref11_Same (y5.2.1, y6.2.1, ())).bind fun y8 =>
    bif y8.1 then
      bif y5.2.2.1 == y6.2.2.1 then
        some (y5.2.2.2.1 == y6.2.2.2.1, ())
      else
      some (false, ())
    else
    some (false, ())
  else
  some (false, ())
def flotsamlaw11_TakeTakes (x : Heap × (List (List Int)) × Int × Int × Unit) : Option (Bool × Unit) := flotsamlaw11_TakeTakes_r x.1 x.2.1 x.2.2.1 x.2.2.2.1
noncomputable def flotsamlaw11_TakeTakes_sm : Sum := ⟨(.cons cHeap (.cons (.sl (.arr 4 cI)) (.cons cI (.cons cI .nil)))), (.cons (.d .bool) .nil), flotsamlaw11_TakeTakes⟩
noncomputable def flotsamlaw11_TakeTakes_S : List (Nat × Sum) := [(9, flotsamlaw11_awake_sm), (15, flotsamlaw11_right_sm), (18, take_Take_sm), (19, flotsamref11_Take_sm), (20, flotsamref07_Same_sm), (21, flotsamref11_Same_sm)]
noncomputable def flotsamlaw11_TakeTakes_fl : List (Nat × Func) := []
noncomputable def flotsamlaw11_TakeTakes_es : List AE := []
theorem flotsamlaw11_TakeTakes_den : (fun x => denFun TEv (look1 flotsamlaw11_TakeTakes_S) (look1 flotsamlaw11_TakeTakes_fl) (annOf flotsamlaw11_TakeTakes_es) 8 5 Go.Proofs.Tryd.f5 flotsamlaw11_TakeTakes_sm.a flotsamlaw11_TakeTakes_sm.r x) = flotsamlaw11_TakeTakes_sm.F := by kernel_rfl
theorem flotsamlaw11_TakeTakes_sem : SemOf Go.Proofs.Tryd.prog 5 flotsamlaw11_TakeTakes_sm :=
  semMk teOk (sl := flotsamlaw11_TakeTakes_S) (all_cons flotsamlaw11_awake_sem (all_cons flotsamlaw11_right_sem (all_cons take_Take_sem (all_cons flotsamref11_Take_sem (all_cons flotsamref07_Same_sem (all_cons flotsamref11_Same_sem all_nil)))))) (fl := flotsamlaw11_TakeTakes_fl) (all_nil) (es := flotsamlaw11_TakeTakes_es) Go.Proofs.Tryd.func5 (by kernel_rfl) rfl (all_nil) rfl flotsamlaw11_TakeTakes_den

/-! ### flotsam/flotsamref02.May -/
def flotsamref02_May_r (a0 : Hdr) : Option (Bool × Unit) :=
  bif !a0.1 then
    bif !a0.2.1 then
      bif a0.2.2.1 == 0 then
        some (a0.2.2.2.1 == 0, ())
      else
      some (false, ())
    else
    some (false, ())
  else
  bif decide (a0.2.2.1 < 0) then
    some (false, ())
  else
  bif decide (a0.2.2.1 > 3) then
    some (false, ())
  else
  bif decide (a0.2.2.2.1 < 0) then
    some (false, ())
  else
  bif decide (0 ≤ a0.2.2.1) then
    bif decide (a0.2.2.1 < 4) then
      some (decide (a0.2.2.2.1 ≤ ([1, 3, 7, 15].getD a0.2.2.1.toNat 0)), ())
    else none
  else none
def flotsamref02_May (x : Hdr × Unit) : Option (Bool × Unit) := flotsamref02_May_r x.1
noncomputable def flotsamref02_May_sm : Sum := ⟨(.cons cHdr .nil), (.cons (.d .bool) .nil), flotsamref02_May⟩
noncomputable def flotsamref02_May_S : List (Nat × Sum) := []
noncomputable def flotsamref02_May_fl : List (Nat × Func) := []
noncomputable def flotsamref02_May_es : List AE := []
theorem flotsamref02_May_den : (fun x => denFun TEv (look1 flotsamref02_May_S) (look1 flotsamref02_May_fl) (annOf flotsamref02_May_es) 8 43 Go.Proofs.Tryd.f43 flotsamref02_May_sm.a flotsamref02_May_sm.r x) = flotsamref02_May_sm.F := by kernel_rfl
theorem flotsamref02_May_sem : SemOf Go.Proofs.Tryd.prog 43 flotsamref02_May_sm :=
  semMk teOk (sl := flotsamref02_May_S) (all_nil) (fl := flotsamref02_May_fl) (all_nil) (es := flotsamref02_May_es) Go.Proofs.Tryd.func43 (by kernel_rfl) rfl (all_nil) rfl flotsamref02_May_den

/-! ### flotsam/flotsamref02.Get -/
def flotsamref02_Get_s0r (v0 : Int) (v4 : Int) (v5 : Int) (v6 : Int) (c0 : Hdr) : Option (SRes (.cons (.int .u64) (.cons cI (.cons cI (.cons cI (.cons cHdr .nil))))) (.cons (.int .u64) (.cons cI (.cons cI (.cons cHdr .nil)))) (.cons .bool (.cons cHdr .nil))) :=
  bif decide (v6 < 2) then
    (flotsamref02_May ((true, v6 == 1, v4, v5, ()), ())).bind fun y1 =>
    bif y1.1 then
      (flotsamref02_Put ((true, v6 == 1, v4, v5, ()), ())).bind fun y2 =>
      bif y2.1 == v0 then
        some (.fin (.ret (true, (true, v6 == 1, v4, v5, ()), ())))
      else
      some (.next (v0, v4, v5, wi64 (v6 + 1), c0, ()))
    else
    some (.next (v0, v4, v5, wi64 (v6 + 1), c0, ()))
  else
  some (.fin (.out (v0, v4, v5, c0, ())))
def flotsamref02_Get_s0 (x : Int × Int × Int × Int × Hdr × Unit) : Option (SRes (.cons (.int .u64) (.cons cI (.cons cI (.cons cI (.cons cHdr .nil))))) (.cons (.int .u64) (.cons cI (.cons cI (.cons cHdr .nil)))) (.cons .bool (.cons cHdr .nil))) := flotsamref02_Get_s0r x.1 x.2.1 x.2.2.1 x.2.2.2.1 x.2.2.2.2.1
def flotsamref02_Get_l0 (x : Int × Int × Int × Int × Hdr × Unit) : Option (LRes (.cons (.int .u64) (.cons cI (.cons cI (.cons cHdr .nil)))) (.cons .bool (.cons cHdr .nil))) := iterL (h := (.cons (.int .u64) (.cons cI (.cons cI (.cons cI (.cons cHdr .nil)))))) (o := (.cons (.int .u64) (.cons cI (.cons cI (.cons cHdr .nil))))) (r := (.cons .bool (.cons cHdr .nil))) flotsamref02_Get_s0 9223372036854775808 x
def flotsamref02_Get_s1r (v0 : Int) (v4 : Int) (v5 : Int) (c0 : Hdr) : Option (SRes (.cons (.int .u64) (.cons cI (.cons cI (.cons cHdr .nil)))) (.cons (.int .u64) (.cons cI (.cons cHdr .nil))) (.cons .bool (.cons cHdr .nil))) :=
  bif decide (v5 < 16) then
    (flotsamref02_Get_l0 (v0, v4, v5, 0, c0, ())).bind fun s3 => match s3 with
    | .out s3 =>
      some (.next (s3.1, s3.2.1, wi64 (s3.2.2.1 + 1), s3.2.2.2.1, ()))
    | .ret s3 =>
      some (.fin (.ret (s3.1, s3.2.1, ())))
  else
  some (.fin (.out (v0, v4, c0, ())))
def flotsamref02_Get_s1 (x : Int × Int × Int × Hdr × Unit) : Option (SRes (.cons (.int .u64) (.cons cI (.cons cI (.cons cHdr .nil)))) (.cons (.int .u64) (.cons cI (.cons cHdr .nil))) (.cons .bool (.cons cHdr .nil))) := flotsamref02_Get_s1r x.1 x.2.1 x.2.2.1 x.2.2.2.1
def flotsamref02_Get_l1 (x : Int × Int × Int × Hdr × Unit) : Option (LRes (.cons (.int .u64) (.cons cI (.cons cHdr .nil))) (.cons .bool (.cons cHdr .nil))) := iterL (h := (.cons (.int .u64) (.cons cI (.cons cI (.cons cHdr .nil))))) (o := (.cons (.int .u64) (.cons cI (.cons cHdr .nil)))) (r := (.cons .bool (.cons cHdr .nil))) flotsamref02_Get_s1 9223372036854775808 x
def flotsamref02_Get_s2r (v0 : Int) (v4 : Int) (c0 : Hdr) : Option (SRes (.cons (.int .u64) (.cons cI (.cons cHdr .nil))) (.cons cHdr .nil) (.cons .bool (.cons cHdr .nil))) :=
  bif decide (v4 < 4) then
    (flotsamref02_Get_l1 (v0, v4, 0, c0, ())).bind fun s4 => match s4 with
    | .out s4 =>
      some (.next (s4.1, wi64 (s4.2.1 + 1), s4.2.2.1, ()))
    | .ret s4 =>
      some (.fin (.ret (s4.1, s4.2.1, ())))
  else
  some (.fin (.out (c0, ())))
def flotsamref02_Get_s2 (x : Int × Int × Hdr × Unit) : Option (SRes (.cons (.int .u64) (.cons cI (.cons cHdr .nil))) (.cons cHdr .nil) (.cons .bool (.cons cHdr .nil))) := flotsamref02_Get_s2r x.1 x.2.1 x.2.2.1
def flotsamref02_Get_l2 (x : Int × Int × Hdr × Unit) : Option (LRes (.cons cHdr .nil) (.cons .bool (.cons cHdr .nil))) := iterL (h := (.cons (.int .u64) (.cons cI (.cons cHdr .nil)))) (o := (.cons cHdr .nil)) (r := (.cons .bool (.cons cHdr .nil))) flotsamref02_Get_s2 9223372036854775808 x
def flotsamref02_Get_r (a0 : Int) : Option (Hdr × Bool × Unit) :=
  bif a0 == 0 then
    some ((false, false, 0, 0, ()), true, ())
  else
  (flotsamref02_Get_l2 (a0, 0, (false, false, 0, 0, ()), ())).bind fun s5 => match s5 with
  | .out s5 =>
    some ((false, false, 0, 0, ()), false, ())
  | .ret s5 =>
    some (s5.2.1, s5.1, ())
def flotsamref02_Get (x : Int × Unit) : Option (Hdr × Bool × Unit) := flotsamref02_Get_r x.1
noncomputable def flotsamref02_Get_sm : Sum := ⟨(.cons (.int .u64) .nil), (.cons (.d cHdr) (.cons (.d .bool) .nil)), flotsamref02_Get⟩
noncomputable def flotsamref02_Get_L0 : LoopSum := { hc := ⟨[], [0, 2, 4, 5, 6], [], [], [0], [], 176⟩, h := ⟨[(0, (.d (.int .u64))), (2, (.pvar 0 [])), (4, (.d cI)), (5, (.d cI)), (6, (.d cI))], [(0, (.d cHdr))], [], 176⟩, xid := 4, oc := ⟨[], [0, 2, 4, 5], [], [], [0], [], 176⟩, o := ⟨[(0, (.d (.int .u64))), (2, (.pvar 0 [])), (4, (.d cI)), (5, (.d cI))], [(0, (.d cHdr))], [], 176⟩, rc := ⟨[], [2, 3], [], [], [0], [], 176⟩, r := ⟨[(2, (.pvar 0 [])), (3, (.d .bool))], [(0, (.d cHdr))], [], 176⟩, F := flotsamref02_Get_l0 }
noncomputable def flotsamref02_Get_L1 : LoopSum := { hc := ⟨[], [0, 2, 4, 5], [], [], [0], [], 128⟩, h := ⟨[(0, (.d (.int .u64))), (2, (.pvar 0 [])), (4, (.d cI)), (5, (.d cI))], [(0, (.d cHdr))], [], 128⟩, xid := 2, oc := ⟨[], [0, 2, 4], [], [], [0], [], 128⟩, o := ⟨[(0, (.d (.int .u64))), (2, (.pvar 0 [])), (4, (.d cI))], [(0, (.d cHdr))], [], 128⟩, rc := ⟨[], [2, 3], [], [], [0], [], 128⟩, r := ⟨[(2, (.pvar 0 [])), (3, (.d .bool))], [(0, (.d cHdr))], [], 128⟩, F := flotsamref02_Get_l1 }
noncomputable def flotsamref02_Get_L2 : LoopSum := { hc := ⟨[], [0, 2, 4], [], [], [0], [], 80⟩, h := ⟨[(0, (.d (.int .u64))), (2, (.pvar 0 [])), (4, (.d cI))], [(0, (.d cHdr))], [], 80⟩, xid := 0, oc := ⟨[], [2], [], [], [0], [], 80⟩, o := ⟨[(2, (.pvar 0 []))], [(0, (.d cHdr))], [], 80⟩, rc := ⟨[], [2, 3], [], [], [0], [], 80⟩, r := ⟨[(2, (.pvar 0 [])), (3, (.d .bool))], [(0, (.d cHdr))], [], 80⟩, F := flotsamref02_Get_l2 }
noncomputable def flotsamref02_Get_S : List (Nat × Sum) := [(43, flotsamref02_May_sm), (44, flotsamref02_Put_sm)]
noncomputable def flotsamref02_Get_fl : List (Nat × Func) := []
noncomputable def flotsamref02_Get_es : List AE := [⟨8, 23, 0, 4, flotsamref02_Get_L0⟩, ⟨8, 23, 0, 2, flotsamref02_Get_L1⟩, ⟨8, 23, 0, 0, flotsamref02_Get_L2⟩]
theorem flotsamref02_Get_den0 : (fun x => denStep TEv (look1 flotsamref02_Get_S) (look1 flotsamref02_Get_fl) (annOf flotsamref02_Get_es) 8 23 Go.Proofs.Tryd.f23.ntmps 0 (cat (bodyOf Go.Proofs.Tryd.f23) [true, true, false, true, false, false, true, false, false, true, false, false, true, false, false, true, false, false]) flotsamref02_Get_L0 x) = flotsamref02_Get_s0 := by kernel_rfl
theorem flotsamref02_Get_den1 : (fun x => denStep TEv (look1 flotsamref02_Get_S) (look1 flotsamref02_Get_fl) (annOf flotsamref02_Get_es) 8 23 Go.Proofs.Tryd.f23.ntmps 0 (cat (bodyOf Go.Proofs.Tryd.f23) [true, true, false, true, false, false, true, false, false, true, false, false]) flotsamref02_Get_L1 x) = flotsamref02_Get_s1 := by kernel_rfl
theorem flotsamref02_Get_den2 : (fun x => denStep TEv (look1 flotsamref02_Get_S) (look1 flotsamref02_Get_fl) (annOf flotsamref02_Get_es) 8 23 Go.Proofs.Tryd.f23.ntmps 0 (cat (bodyOf Go.Proofs.Tryd.f23) [true, true, false, true, false, false]) flotsamref02_Get_L2 x) = flotsamref02_Get_s2 := by kernel_rfl
theorem flotsamref02_Get_den : (fun x => denFun TEv (look1 flotsamref02_Get_S) (look1 flotsamref02_Get_fl) (annOf flotsamref02_Get_es) 8 23 Go.Proofs.Tryd.f23 flotsamref02_Get_sm.a flotsamref02_Get_sm.r x) = flotsamref02_Get_sm.F := by kernel_rfl
theorem flotsamref02_Get_ok0 : AEok Go.Proofs.Tryd.prog TEv (look1 flotsamref02_Get_S) (look1 flotsamref02_Get_fl) (annOf flotsamref02_Get_es) ⟨8, 23, 0, 4, flotsamref02_Get_L0⟩ := aeok_of 9223372036854775808 Go.Proofs.Tryd.func23 (by kernel_rfl) flotsamref02_Get_den0 (by kernel_rfl)
theorem flotsamref02_Get_ok1 : AEok Go.Proofs.Tryd.prog TEv (look1 flotsamref02_Get_S) (look1 flotsamref02_Get_fl) (annOf flotsamref02_Get_es) ⟨8, 23, 0, 2, flotsamref02_Get_L1⟩ := aeok_of 9223372036854775808 Go.Proofs.Tryd.func23 (by kernel_rfl) flotsamref02_Get_den1 (by kernel_rfl)
theorem flotsamref02_Get_ok2 : AEok Go.Proofs.Tryd.prog TEv (look1 flotsamref02_Get_S) (look1 flotsamref02_Get_fl) (annOf flotsamref02_Get_es) ⟨8, 23, 0, 0, flotsamref02_Get_L2⟩ := aeok_of 9223372036854775808 Go.Proofs.Tryd.func23 (by kernel_rfl) flotsamref02_Get_den2 (by kernel_rfl)
theorem flotsamref02_Get_sem : SemOf Go.Proofs.Tryd.prog 23 flotsamref02_Get_sm :=
  semMk teOk (sl := flotsamref02_Get_S) (all_cons flotsamref02_May_sem (all_cons flotsamref02_Put_sem all_nil)) (fl := flotsamref02_Get_fl) (all_nil) (es := flotsamref02_Get_es) Go.Proofs.Tryd.func23 (by kernel_rfl) rfl (all_cons flotsamref02_Get_ok0 (all_cons flotsamref02_Get_ok1 (all_cons flotsamref02_Get_ok2 (all_nil)))) rfl flotsamref02_Get_den

/-! ### flotsam/flotsamlaw11.TakeOwn -/
def flotsamlaw11_TakeOwn_s0r (v2 : List (Int × Int × Unit)) (v8 : List (List Int)) (v10 : Int) (v14 : Int) (v18 : Int) (c320 : Heap) (r400 : List Int) : Option (SRes (.cons (.sl (.cons cI (.cons cI .nil))) (.cons (.sl (.arr 4 cI)) (.cons cI (.cons cI (.cons cI (.cons cHeap (.cons (.sl cI) .nil))))))) (.cons (.sl (.cons cI (.cons cI .nil))) (.cons (.sl (.arr 4 cI)) (.cons cI (.cons cI (.cons cHeap (.cons (.sl cI) .nil)))))) (.cons .bool .nil)) :=
  bif decide (v18 < (r400.length : Int)) then
    bif decide (0 ≤ v18) then
      bif decide (v18 < (r400.length : Int)) then
        bif (r400.getD v18.toNat 0) == v14 then
          some (.fin (.ret (false, ())))
        else
        some (.next (v2, v8, v10, v14, wi64 (v18 + 1), c320, r400, ()))
      else none
    else none
  else
  some (.fin (.out (v2, v8, v10, v14, c320, r400, ())))
def flotsamlaw11_TakeOwn_s0 (x : (List (Int × Int × Unit)) × (List (List Int)) × Int × Int × Int × Heap × (List Int) × Unit) : Option (SRes (.cons (.sl (.cons cI (.cons cI .nil))) (.cons (.sl (.arr 4 cI)) (.cons cI (.cons cI (.cons cI (.cons cHeap (.cons (.sl cI) .nil))))))) (.cons (.sl (.cons cI (.cons cI .nil))) (.cons (.sl (.arr 4 cI)) (.cons cI (.cons cI (.cons cHeap (.cons (.sl cI) .nil)))))) (.cons .bool .nil)) := flotsamlaw11_TakeOwn_s0r x.1 x.2.1 x.2.2.1 x.2.2.2.1 x.2.2.2.2.1 x.2.2.2.2.2.1 x.2.2.2.2.2.2.1
def flotsamlaw11_TakeOwn_l0 (x : (List (Int × Int × Unit)) × (List (List Int)) × Int × Int × Int × Heap × (List Int) × Unit) : Option (LRes (.cons (.sl (.cons cI (.cons cI .nil))) (.cons (.sl (.arr 4 cI)) (.cons cI (.cons cI (.cons cHeap (.cons (.sl cI) .nil)))))) (.cons .bool .nil)) := iterL (h := (.cons (.sl (.cons cI (.cons cI .nil))) (.cons (.sl (.arr 4 cI)) (.cons cI (.cons cI (.cons cI (.cons cHeap (.cons (.sl cI) .nil)))))))) (o := (.cons (.sl (.cons cI (.cons cI .nil))) (.cons (.sl (.arr 4 cI)) (.cons cI (.cons cI (.cons cHeap (.cons (.sl cI) .nil))))))) (r := (.cons .bool .nil)) flotsamlaw11_TakeOwn_s0 9223372036854775808 x
def flotsamlaw11_TakeOwn_s1r (v2 : List (Int × Int × Unit)) (v8 : List (List Int)) (v10 : Int) (c320 : Heap) (r400 : List Int) : Option (SRes (.cons (.sl (.cons cI (.cons cI .nil))) (.cons (.sl (.arr 4 cI)) (.cons cI (.cons cHeap (.cons (.sl cI) .nil))))) .nil (.cons .bool .nil)) :=
  bif decide (v10 < (v2.length : Int)) then
    bif decide (0 ≤ v10) then
      bif decide (v10 < (v2.length : Int)) then
        bif decide ((v2.getD v10.toNat (0, 0, ())).1 < 0) then
          some (.next (v2, v8, wi64 (v10 + 1), c320, r400, ()))
        else
        bif decide (0 ≤ v10) then
          bif decide (v10 < (v2.length : Int)) then
            bif (v8.length : Int) == 0 then none else
            bif decide (0 ≤ v10) then
              bif decide (v10 < (v2.length : Int)) then
                (take_Take (c320, v8, (v2.getD v10.toNat (0, 0, ())).1.tmod (v8.length : Int), (v2.getD v10.toNat (0, 0, ())).2.1, ())).bind fun y5 =>
                bif !y5.2.2.2.1 then
                  some (.next (v2, v8, wi64 (v10 + 1), c320, r400, ()))
                else
                (flotsamref07_Form (y5.1, ())).bind fun y6 =>
                bif !y6.1 then
                  some (.fin (.ret (false, ())))
                else
                bif decide ((y5.2.1.length : Int) ≤ ((v2.getD v10.toNat (0, 0, ())).1.tmod (v8.length : Int))) then
                  some (.fin (.ret (false, ())))
                else
                (flotsamref11_Right (y5.1, y5.2.1, ())).bind fun y7 =>
                bif !y7.1 then
                  some (.fin (.ret (false, ())))
                else
                bif decide (y5.2.2.1 < 0) then
                  some (.fin (.ret (false, ())))
                else
                bif decide (y5.2.2.1 ≥ (y5.1.1.length : Int)) then
                  some (.fin (.ret (false, ())))
                else
                bif decide (0 ≤ y5.2.2.1) then
                  bif decide (y5.2.2.1 < (y5.1.1.length : Int)) then
                    (flotsamref02_Get (y5.1.1.getD y5.2.2.1.toNat 0, ())).bind fun y8 =>
                    bif !y8.2.1 then
                      some (.fin (.ret (false, ())))
                    else
                    bif !y8.1.1 then
                      some (.fin (.ret (false, ())))
                    else
                    bif decide (0 ≤ v10) then
                      bif decide (v10 < (v2.length : Int)) then
                        bif y8.1.2.2.2.1 != (v2.getD v10.toNat (0, 0, ())).2.1 then
                          some (.fin (.ret (false, ())))
                        else
                        bif decide (0 ≤ ((v2.getD v10.toNat (0, 0, ())).1.tmod (v8.length : Int))) then
                          bif decide (((v2.getD v10.toNat (0, 0, ())).1.tmod (v8.length : Int)) < (y5.2.1.length : Int)) then
                            bif decide (0 ≤ y8.1.2.2.1) then
                              bif decide (y8.1.2.2.1 < 4) then
                                bif ((y5.2.1.getD ((v2.getD v10.toNat (0, 0, ())).1.tmod (v8.length : Int)).toNat (List.replicate 4 0)).getD y8.1.2.2.1.toNat 0) != (wi64 (y5.2.2.1.tdiv 32)) then
                                  some (.fin (.ret (false, ())))
                                else
                                bif decide (y8.1.2.2.1 > 0) then
                                  bif decide (0 ≤ v10) then
                                    bif decide (v10 < (v2.length : Int)) then
                                      bif decide ((wu64 (wi64 (y8.1.2.2.1 - 1))) < 0) then none else
                                      bif decide ((v2.getD v10.toNat (0, 0, ())).2.1 < (shiftI true .i64 2 (wu64 (wi64 (y8.1.2.2.1 - 1))))) then
                                        some (.fin (.ret (false, ())))
                                      else
                                      (flotsamlaw11_TakeOwn_l0 (v2, y5.2.1, v10, y5.2.2.1, 0, y5.1, r400, ())).bind fun s9 => match s9 with
                                      | .out s9 =>
                                        bif decide ((s9.2.2.2.2.2.1.length + 1) * 8 ≤ 140737488355328) then
                                          some (.next (s9.1, s9.2.1, wi64 (s9.2.2.1 + 1), s9.2.2.2.2.1, s9.2.2.2.2.2.1 ++ [s9.2.2.2.1], ()))
                                        else none
                                      | .ret s9 =>
                                        some (.fin (.ret (s9.1, ())))
                                    else none
                                  else none
                                else
                                (flotsamlaw11_TakeOwn_l0 (v2, y5.2.1, v10, y5.2.2.1, 0, y5.1, r400, ())).bind fun s10 => match s10 with
                                | .out s10 =>
                                  bif decide ((s10.2.2.2.2.2.1.length + 1) * 8 ≤ 140737488355328) then
                                    some (.next (s10.1, s10.2.1, wi64 (s10.2.2.1 + 1), s10.2.2.2.2.1, s10.2.2.2.2.2.1 ++ [s10.2.2.2.1], ()))
                                  else none
                                | .ret s10 =>
                                  some (.fin (.ret (s10.1, ())))
                              else none
                            else none
                          else none
                        else none
                      else none
                    else none
                  else none
                else none
              else none
            else none
          else none
        else none
      else none
    else none
  else
  some (.fin (.out ()))
def flotsamlaw11_TakeOwn_s1 (x : (List (Int × Int × Unit)) × (List (List Int)) × Int × Heap × (List Int) × Unit) : Option (SRes (.cons (.sl (.cons cI (.cons cI .nil))) (.cons (.sl (.arr 4 cI)) (.cons cI (.cons cHeap (.cons (.sl cI) .nil))))) .nil (.cons .bool .nil)) := flotsamlaw11_TakeOwn_s1r x.1 x.2.1 x.2.2.1 x.2.2.2.1 x.2.2.2.2.1
def flotsamlaw11_TakeOwn_l1 (x : (List (Int × Int × Unit)) × (List (List Int)) × Int × Heap × (List Int) × Unit) : Option (LRes .nil (.cons .bool .nil)) := iterL (h := (.cons (.sl (.cons cI (.cons cI .nil))) (.cons (.sl (.arr 4 cI)) (.cons cI (.cons cHeap (.cons (.sl cI) .nil)))))) (o := .nil) (r := (.cons .bool .nil)) flotsamlaw11_TakeOwn_s1 9223372036854775808 x
def flotsamlaw11_TakeOwn_r (a0 : Int) (a1 : Int) (a2 : List (Int × Int × Unit)) : Option (Bool × Unit) :=
  (flotsamlaw11_awake ()).bind fun y1 =>
  bif !y1.1 then
    (flotsamlaw11_awake ()).bind fun y2 =>
    some (y2.1, ())
  else
  bif decide ((a2.length : Int) > 80) then
    (flotsamlaw11_awake ()).bind fun y3 =>
    some (y3.1, ())
  else
  (flotsamref11_Played (wi64 (1 + ((wi64 a0).tmod 16)), wi64 (1 + ((wi64 a1).tmod 8)), [], ())).bind fun y4 =>
  (flotsamlaw11_TakeOwn_l1 (a2, y4.2.1, 0, y4.1, [], ())).bind fun s11 => match s11 with
  | .out s11 =>
    some (true, ())
  | .ret s11 =>
    some (s11.1, ())
def flotsamlaw11_TakeOwn (x : Int × Int × (List (Int × Int × Unit)) × Unit) : Option (Bool × Unit) := flotsamlaw11_TakeOwn_r x.1 x.2.1 x.2.2.1
noncomputable def flotsamlaw11_TakeOwn_sm : Sum := ⟨(.cons (.int .u8) (.cons (.int .u8) (.cons (.sl (.cons cI (.cons cI .nil))) .nil))), (.cons (.d .bool) .nil), flotsamlaw11_TakeOwn⟩
noncomputable def flotsamlaw11_TakeOwn_L0 : LoopSum := { hc := ⟨[], [2, 7, 8, 9, 10, 14, 18], [], [], [320], [400], 2481⟩, h := ⟨[(2, (.d (.sl (.cons cI (.cons cI .nil))))), (7, (.pvar 320 [])), (8, (.d (.sl (.arr 4 cI)))), (9, (.row 400)), (10, (.d cI)), (14, (.d cI)), (18, (.d cI))], [(320, (.d cHeap))], [(400, cI, true)], 2481⟩, xid := 2, oc := ⟨[], [2, 7, 8, 9, 10, 14], [], [], [320], [400], 2481⟩, o := ⟨[(2, (.d (.sl (.cons cI (.cons cI .nil))))), (7, (.pvar 320 [])), (8, (.d (.sl (.arr 4 cI)))), (9, (.row 400)), (10, (.d cI)), (14, (.d cI))], [(320, (.d cHeap))], [(400, cI, true)], 2481⟩, rc := ⟨[], [6], [], [], [], [], 2481⟩, r := ⟨[(6, (.d .bool))], [], [], 2481⟩, F := flotsamlaw11_TakeOwn_l0 }
noncomputable def flotsamlaw11_TakeOwn_L1 : LoopSum := { hc := ⟨[], [2, 7, 8, 9, 10], [(.tmp 9, cI)], [], [320], [], 400⟩, h := ⟨[(2, (.d (.sl (.cons cI (.cons cI .nil))))), (7, (.pvar 320 [])), (8, (.d (.sl (.arr 4 cI)))), (9, (.row 400)), (10, (.d cI))], [(320, (.d cHeap))], [(400, cI, true)], 401⟩, xid := 0, oc := ⟨[], [], [], [], [], [], 400⟩, o := ⟨[], [], [], 400⟩, rc := ⟨[], [6], [], [], [], [], 400⟩, r := ⟨[(6, (.d .bool))], [], [], 400⟩, F := flotsamlaw11_TakeOwn_l1 }
noncomputable def flotsamlaw11_TakeOwn_S : List (Nat × Sum) := [(9, flotsamlaw11_awake_sm), (10, flotsamref07_Form_sm), (12, flotsamref11_Right_sm), (18, take_Take_sm), (22, flotsamref11_Played_sm), (23, flotsamref02_Get_sm)]
noncomputable def flotsamlaw11_TakeOwn_fl : List (Nat × Func) := []
noncomputable def flotsamlaw11_TakeOwn_es : List AE := [⟨8, 6, 0, 2, flotsamlaw11_TakeOwn_L0⟩, ⟨8, 6, 0, 0, flotsamlaw11_TakeOwn_L1⟩]
theorem flotsamlaw11_TakeOwn_den0 : (fun x => denStep TEv (look1 flotsamlaw11_TakeOwn_S) (look1 flotsamlaw11_TakeOwn_fl) (annOf flotsamlaw11_TakeOwn_es) 8 6 Go.Proofs.Tryd.f6.ntmps 0 (cat (bodyOf Go.Proofs.Tryd.f6) [true, true, true, true, false, true, false, false, true, false, false, true, true, true, true, true, true, true, true, true, false, true, false, false]) flotsamlaw11_TakeOwn_L0 x) = flotsamlaw11_TakeOwn_s0 := by kernel_rfl
theorem flotsamlaw11_TakeOwn_den1 : (fun x => denStep TEv (look1 flotsamlaw11_TakeOwn_S) (look1 flotsamlaw11_TakeOwn_fl) (annOf flotsamlaw11_TakeOwn_es) 8 6 Go.Proofs.Tryd.f6.ntmps 0 (cat (bodyOf Go.Proofs.Tryd.f6) [true, true, true, true, false, true, false, false]) flotsamlaw11_TakeOwn_L1 x) = flotsamlaw11_TakeOwn_s1 := by kernel_rfl
theorem flotsamlaw11_TakeOwn_den : (fun x => denFun TEv (look1 flotsamlaw11_TakeOwn_S) (look1 flotsamlaw11_TakeOwn_fl) (annOf flotsamlaw11_TakeOwn_es) 8 6 Go.Proofs.Tryd.f6 flotsamlaw11_TakeOwn_sm.a flotsamlaw11_TakeOwn_sm.r x) = flotsamlaw11_TakeOwn_sm.F := by kernel_rfl
theorem flotsamlaw11_TakeOwn_ok0 : AEok Go.Proofs.Tryd.prog TEv (look1 flotsamlaw11_TakeOwn_S) (look1 flotsamlaw11_TakeOwn_fl) (annOf flotsamlaw11_TakeOwn_es) ⟨8, 6, 0, 2, flotsamlaw11_TakeOwn_L0⟩ := aeok_of 9223372036854775808 Go.Proofs.Tryd.func6 (by kernel_rfl) flotsamlaw11_TakeOwn_den0 (by kernel_rfl)
theorem flotsamlaw11_TakeOwn_ok1 : AEok Go.Proofs.Tryd.prog TEv (look1 flotsamlaw11_TakeOwn_S) (look1 flotsamlaw11_TakeOwn_fl) (annOf flotsamlaw11_TakeOwn_es) ⟨8, 6, 0, 0, flotsamlaw11_TakeOwn_L1⟩ := aeok_of 9223372036854775808 Go.Proofs.Tryd.func6 (by kernel_rfl) flotsamlaw11_TakeOwn_den1 (by kernel_rfl)
theorem flotsamlaw11_TakeOwn_sem : SemOf Go.Proofs.Tryd.prog 6 flotsamlaw11_TakeOwn_sm :=
  semMk teOk (sl := flotsamlaw11_TakeOwn_S) (all_cons flotsamlaw11_awake_sem (all_cons flotsamref07_Form_sem (all_cons flotsamref11_Right_sem (all_cons take_Take_sem (all_cons flotsamref11_Played_sem (all_cons flotsamref02_Get_sem all_nil)))))) (fl := flotsamlaw11_TakeOwn_fl) (all_nil) (es := flotsamlaw11_TakeOwn_es) Go.Proofs.Tryd.func6 (by kernel_rfl) rfl (all_cons flotsamlaw11_TakeOwn_ok0 (all_cons flotsamlaw11_TakeOwn_ok1 (all_nil))) rfl flotsamlaw11_TakeOwn_den

/-! ### flotsam/flotsamref07.Used -/
def flotsamref07_Used_s0r (v3 : Int) (v4 : Int) (c0 : Heap) : Option (SRes (.cons cI (.cons cI (.cons cHeap .nil))) (.cons cI .nil) .nil) :=
  bif decide (v4 < (c0.2.1.length : Int)) then
    bif decide (0 ≤ v4) then
      bif decide (v4 < (c0.2.1.length : Int)) then
        bif (c0.2.1.getD v4.toNat (0, 0, 0, ())).1 != 0 then
          (flotsamref04_Blocks ((c0.2.1.getD v4.toNat (0, 0, 0, ())).2.1, ())).bind fun y1 =>
          (flotsamref06_Free (c0.2.1.getD v4.toNat (0, 0, 0, ()), ())).bind fun y2 =>
          (flotsamref04_Words ((c0.2.1.getD v4.toNat (0, 0, 0, ())).2.1, ())).bind fun y3 =>
          some (.next (wi64 (v3 + (wi64 ((wi64 (y1.1 - y2.1)) * y3.1))), wi64 (v4 + 1), c0, ()))
        else
        some (.next (v3, wi64 (v4 + 1), c0, ()))
      else none
    else none
  else
  some (.fin (.out (v3, ())))
def flotsamref07_Used_s0 (x : Int × Int × Heap × Unit) : Option (SRes (.cons cI (.cons cI (.cons cHeap .nil))) (.cons cI .nil) .nil) := flotsamref07_Used_s0r x.1 x.2.1 x.2.2.1
def flotsamref07_Used_l0 (x : Int × Int × Heap × Unit) : Option (LRes (.cons cI .nil) .nil) := iterL (h := (.cons cI (.cons cI (.cons cHeap .nil)))) (o := (.cons cI .nil)) (r := .nil) flotsamref07_Used_s0 9223372036854775808 x
def flotsamref07_Used_r (a0 : Heap) : Option (Int × Unit) :=
  (flotsamref07_Used_l0 (0, 0, a0, ())).bind fun s4 => match s4 with
  | .out s4 =>
    some (s4.1, ())
  | .ret s4 =>
    none
def flotsamref07_Used (x : Heap × Unit) : Option (Int × Unit) := flotsamref07_Used_r x.1
noncomputable def flotsamref07_Used_sm : Sum := ⟨(.cons cHeap .nil), (.cons (.d cI) .nil), flotsamref07_Used⟩
noncomputable def flotsamref07_Used_L0 : LoopSum := { hc := ⟨[], [1, 3, 4], [], [], [0], [], 64⟩, h := ⟨[(1, (.pvar 0 [])), (3, (.d cI)), (4, (.d cI))], [(0, (.d cHeap))], [], 64⟩, xid := 0, oc := ⟨[], [3], [], [], [], [], 64⟩, o := ⟨[(3, (.d cI))], [], [], 64⟩, rc := ⟨[], [], [], [], [64], [], 64⟩, r := ⟨[], [], [], 64⟩, F := flotsamref07_Used_l0 }
noncomputable def flotsamref07_Used_S : List (Nat × Sum) := [(45, flotsamref04_Blocks_sm), (46, flotsamref06_Free_sm), (47, flotsamref04_Words_sm)]
noncomputable def flotsamref07_Used_fl : List (Nat × Func) := []
noncomputable def flotsamref07_Used_es : List AE := [⟨8, 24, 0, 0, flotsamref07_Used_L0⟩]
theorem flotsamref07_Used_den0 : (fun x => denStep TEv (look1 flotsamref07_Used_S) (look1 flotsamref07_Used_fl) (annOf flotsamref07_Used_es) 8 24 Go.Proofs.Tryd.f24.ntmps 0 (cat (bodyOf Go.Proofs.Tryd.f24) [true, true, false, true, false, false]) flotsamref07_Used_L0 x) = flotsamref07_Used_s0 := by kernel_rfl
theorem flotsamref07_Used_den : (fun x => denFun TEv (look1 flotsamref07_Used_S) (look1 flotsamref07_Used_fl) (annOf flotsamref07_Used_es) 8 24 Go.Proofs.Tryd.f24 flotsamref07_Used_sm.a flotsamref07_Used_sm.r x) = flotsamref07_Used_sm.F := by kernel_rfl
theorem flotsamref07_Used_ok0 : AEok Go.Proofs.Tryd.prog TEv (look1 flotsamref07_Used_S) (look1 flotsamref07_Used_fl) (annOf flotsamref07_Used_es) ⟨8, 24, 0, 0, flotsamref07_Used_L0⟩ := aeok_of 9223372036854775808 Go.Proofs.Tryd.func24 (by kernel_rfl) flotsamref07_Used_den0 (by kernel_rfl)
theorem flotsamref07_Used_sem : SemOf Go.Proofs.Tryd.prog 24 flotsamref07_Used_sm :=
  semMk teOk (sl := flotsamref07_Used_S) (all_cons flotsamref04_Blocks_sem (all_cons flotsamref06_Free_sem (all_cons flotsamref04_Words_sem all_nil))) (fl := flotsamref07_Used_fl) (all_nil) (es := flotsamref07_Used_es) Go.Proofs.Tryd.func24 (by kernel_rfl) rfl (all_cons flotsamref07_Used_ok0 (all_nil)) rfl flotsamref07_Used_den

/-! ### flotsam/flotsamlaw11.TakeOthers -/
def flotsamlaw11_TakeOthers_s0r (v1 : List (List Int)) (v2 : Int) (v3 : Int) (v10 : List (List Int)) (v11 : Int) (v12 : Bool) (v13 : Int) (v14 : Int) (c0 : Heap) (c336 : Heap) : Option (SRes (.cons (.sl (.arr 4 cI)) (.cons cI (.cons cI (.cons (.sl (.arr 4 cI)) (.cons cI (.cons .bool (.cons cI (.cons cI (.cons cHeap (.cons cHeap .nil)))))))))) (.cons (.sl (.arr 4 cI)) (.cons cI (.cons cI (.cons (.sl (.arr 4 cI)) (.cons cI (.cons .bool (.cons cI (.cons cHeap (.cons cHeap .nil))))))))) (.cons .bool .nil)) :=
  bif decide (v14 < 4) then
    bif decide (0 ≤ v13) then
      bif decide (v13 < (v10.length : Int)) then
        bif decide (0 ≤ v14) then
          bif decide (v14 < 4) then
            bif decide (0 ≤ v13) then
              bif decide (v13 < (v1.length : Int)) then
                bif decide (0 ≤ v14) then
                  bif decide (v14 < 4) then
                    bif ((v10.getD v13.toNat (List.replicate 4 0)).getD v14.toNat 0) != ((v1.getD v13.toNat (List.replicate 4 0)).getD v14.toNat 0) then
                      bif !v12 then
                        some (.fin (.ret (false, ())))
                      else
                      bif v13 != v2 then
                        some (.fin (.ret (false, ())))
                      else
                      bif decide (0 ≤ v13) then
                        bif decide (v13 < (v10.length : Int)) then
                          bif decide (0 ≤ v14) then
                            bif decide (v14 < 4) then
                              bif ((v10.getD v13.toNat (List.replicate 4 0)).getD v14.toNat 0) != (wi64 (v11.tdiv 32)) then
                                some (.fin (.ret (false, ())))
                              else
                              some (.next (v1, v2, v3, v10, v11, v12, v13, wi64 (v14 + 1), c0, c336, ()))
                            else none
                          else none
                        else none
                      else none
                    else
                    some (.next (v1, v2, v3, v10, v11, v12, v13, wi64 (v14 + 1), c0, c336, ()))
                  else none
                else none
              else none
            else none
          else none
        else none
      else none
    else none
  else
  some (.fin (.out (v1, v2, v3, v10, v11, v12, v13, c0, c336, ())))
def flotsamlaw11_TakeOthers_s0 (x : (List (List Int)) × Int × Int × (List (List Int)) × Int × Bool × Int × Int × Heap × Heap × Unit) : Option (SRes (.cons (.sl (.arr 4 cI)) (.cons cI (.cons cI (.cons (.sl (.arr 4 cI)) (.cons cI (.cons .bool (.cons cI (.cons cI (.cons cHeap (.cons cHeap .nil)))))))))) (.cons (.sl (.arr 4 cI)) (.cons cI (.cons cI (.cons (.sl (.arr 4 cI)) (.cons cI (.cons .bool (.cons cI (.cons cHeap (.cons cHeap .nil))))))))) (.cons .bool .nil)) := flotsamlaw11_TakeOthers_s0r x.1 x.2.1 x.2.2.1 x.2.2.2.1 x.2.2.2.2.1 x.2.2.2.2.2.1 x.2.2.2.2.2.2.1 x.2.2.2.2.2.2.2.1 x.2.2.2.2.2.2.2.2.1 x.2.2.2.2.2.2.2.2.2.1
def flotsamlaw11_TakeOthers_l0 (x : (List (List Int)) × Int × Int × (List (List Int)) × Int × Bool × Int × Int × Heap × Heap × Unit) : Option (LRes (.cons (.sl (.arr 4 cI)) (.cons cI (.cons cI (.cons (.sl (.arr 4 cI)) (.cons cI (.cons .bool (.cons cI (.cons cHeap (.cons cHeap .nil))))))))) (.cons .bool .nil)) := iterL (h := (.cons (.sl (.arr 4 cI)) (.cons cI (.cons cI (.cons (.sl (.arr 4 cI)) (.cons cI (.cons .bool (.cons cI (.cons cI (.cons cHeap (.cons cHeap .nil))))))))))) (o := (.cons (.sl (.arr 4 cI)) (.cons cI (.cons cI (.cons (.sl (.arr 4 cI)) (.cons cI (.cons .bool (.cons cI (.cons cHeap (.cons cHeap .nil)))))))))) (r := (.cons .bool .nil)) flotsamlaw11_TakeOthers_s0 9223372036854775808 x
def flotsamlaw11_TakeOthers_s1r (v1 : List (List Int)) (v2 : Int) (v3 : Int) (v10 : List (List Int)) (v11 : Int) (v12 : Bool) (v13 : Int) (c0 : Heap) (c336 : Heap) : Option (SRes (.cons (.sl (.arr 4 cI)) (.cons cI (.cons cI (.cons (.sl (.arr 4 cI)) (.cons cI (.cons .bool (.cons cI (.cons cHeap (.cons cHeap .nil))))))))) (.cons cI (.cons cI (.cons (.sl (.arr 4 cI)) (.cons cI (.cons .bool (.cons cHeap (.cons cHeap .nil))))))) (.cons .bool .nil)) :=
  bif decide (v13 < (v1.length : Int)) then
    (flotsamlaw11_TakeOthers_l0 (v1, v2, v3, v10, v11, v12, v13, 0, c0, c336, ())).bind fun s6 => match s6 with
    | .out s6 =>
      some (.next (s6.1, s6.2.1, s6.2.2.1, s6.2.2.2.1, s6.2.2.2.2.1, s6.2.2.2.2.2.1, wi64 (s6.2.2.2.2.2.2.1 + 1), s6.2.2.2.2.2.2.2.1, s6.2.2.2.2.2.2.2.2.1, ()))
    | .ret s6 =>
      some (.fin (.ret (s6.1, ())))
  else
  some (.fin (.out (v2, v3, v10, v11, v12, c0, c336, ())))
def flotsamlaw11_TakeOthers_s1 (x : (List (List Int)) × Int × Int × (List (List Int)) × Int × Bool × Int × Heap × Heap × Unit) : Option (SRes (.cons (.sl (.arr 4 cI)) (.cons cI (.cons cI (.cons (.sl (.arr 4 cI)) (.cons cI (.cons .bool (.cons cI (.cons cHeap (.cons cHeap .nil))))))))) (.cons cI (.cons cI (.cons (.sl (.arr 4 cI)) (.cons cI (.cons .bool (.cons cHeap (.cons cHeap .nil))))))) (.cons .bool .nil)) := flotsamlaw11_TakeOthers_s1r x.1 x.2.1 x.2.2.1 x.2.2.2.1 x.2.2.2.2.1 x.2.2.2.2.2.1 x.2.2.2.2.2.2.1 x.2.2.2.2.2.2.2.1 x.2.2.2.2.2.2.2.2.1
def flotsamlaw11_TakeOthers_l1 (x : (List (List Int)) × Int × Int × (List (List Int)) × Int × Bool × Int × Heap × Heap × Unit) : Option (LRes (.cons cI (.cons cI (.cons (.sl (.arr 4 cI)) (.cons cI (.cons .bool (.cons cHeap (.cons cHeap .nil))))))) (.cons .bool .nil)) := iterL (h := (.cons (.sl (.arr 4 cI)) (.cons cI (.cons cI (.cons (.sl (.arr 4 cI)) (.cons cI (.cons .bool (.cons cI (.cons cHeap (.cons cHeap .nil)))))))))) (o := (.cons cI (.cons cI (.cons (.sl (.arr 4 cI)) (.cons cI (.cons .bool (.cons cHeap (.cons cHeap .nil)))))))) (r := (.cons .bool .nil)) flotsamlaw11_TakeOthers_s1 9223372036854775808 x
def flotsamlaw11_TakeOthers_s2r (v11 : Int) (v15 : Int) (v20 : Int) (c0 : Heap) (c336 : Heap) : Option (SRes (.cons cI (.cons cI (.cons cI (.cons cHeap (.cons cHeap .nil))))) (.cons cI (.cons cHeap .nil)) (.cons .bool .nil)) :=
  bif decide (v20 < (c0.1.length : Int)) then
    bif decide (0 ≤ v20) then
      bif decide (v20 < (c0.1.length : Int)) then
        bif decide (0 ≤ v20) then
          bif decide (v20 < (c336.1.length : Int)) then
            bif (c0.1.getD v20.toNat 0) != (c336.1.getD v20.toNat 0) then
              bif decide (v20 < v11) then
                some (.fin (.ret (false, ())))
              else
              bif decide (v20 ≥ (wi64 (v11 + 16))) then
                some (.fin (.ret (false, ())))
              else
              some (.next (v11, v15, wi64 (v20 + 1), c0, c336, ()))
            else
            some (.next (v11, v15, wi64 (v20 + 1), c0, c336, ()))
          else none
        else none
      else none
    else none
  else
  some (.fin (.out (v15, c336, ())))
def flotsamlaw11_TakeOthers_s2 (x : Int × Int × Int × Heap × Heap × Unit) : Option (SRes (.cons cI (.cons cI (.cons cI (.cons cHeap (.cons cHeap .nil))))) (.cons cI (.cons cHeap .nil)) (.cons .bool .nil)) := flotsamlaw11_TakeOthers_s2r x.1 x.2.1 x.2.2.1 x.2.2.2.1 x.2.2.2.2.1
def flotsamlaw11_TakeOthers_l2 (x : Int × Int × Int × Heap × Heap × Unit) : Option (LRes (.cons cI (.cons cHeap .nil)) (.cons .bool .nil)) := iterL (h := (.cons cI (.cons cI (.cons cI (.cons cHeap (.cons cHeap .nil)))))) (o := (.cons cI (.cons cHeap .nil))) (r := (.cons .bool .nil)) flotsamlaw11_TakeOthers_s2 9223372036854775808 x
def flotsamlaw11_TakeOthers_r (a0 : Heap) (a1 : List (List Int)) (a2 : Int) (a3 : Int) : Option (Bool × Unit) :=
  (flotsamlaw11_awake ()).bind fun y1 =>
  bif !y1.1 then
    (flotsamlaw11_awake ()).bind fun y2 =>
    some (y2.1, ())
  else
  (flotsamlaw11_right (a0, a1, a2, ())).bind fun y3 =>
  bif !y3.1 then
    (flotsamlaw11_awake ()).bind fun y4 =>
    some (y4.1, ())
  else
  (take_Take (a0, a1, a2, a3, ())).bind fun y5 =>
  bif (y5.2.1.length : Int) != (a1.length : Int) then
    some (false, ())
  else
  (flotsamlaw11_TakeOthers_l1 (a1, a2, a3, y5.2.1, y5.2.2.1, y5.2.2.2.1, 0, a0, y5.1, ())).bind fun s7 => match s7 with
  | .out s7 =>
    (flotsamref07_Used (s7.2.2.2.2.2.1, ())).bind fun y8 =>
    bif !s7.2.2.2.2.1 then
      (take_Take (s7.2.2.2.2.2.2.1, s7.2.2.1, s7.1, s7.2.1, ())).bind fun y9 =>
      bif !y9.2.2.2.1 then
        (flotsamref07_Same (s7.2.2.2.2.2.2.1, s7.2.2.2.2.2.1, ())).bind fun y10 =>
        some (y10.1, ())
      else
      some (false, ())
    else
    (flotsamlaw11_TakeOthers_l2 (s7.2.2.2.1, y8.1, 0, s7.2.2.2.2.2.1, s7.2.2.2.2.2.2.1, ())).bind fun s11 => match s11 with
    | .out s11 =>
      (flotsamref07_Used (s11.2.1, ())).bind fun y12 =>
      bif decide (y12.1 > s11.1) then
        (flotsamref07_Used (s11.2.1, ())).bind fun y13 =>
        some (decide (y13.1 ≤ (wi64 (s11.1 + 16))), ())
      else
      some (false, ())
    | .ret s11 =>
      some (s11.1, ())
  | .ret s7 =>
    some (s7.1, ())
def flotsamlaw11_TakeOthers (x : Heap × (List (List Int)) × Int × Int × Unit) : Option (Bool × Unit) := flotsamlaw11_TakeOthers_r x.1 x.2.1 x.2.2.1 x.2.2.2.1
noncomputable def flotsamlaw11_TakeOthers_sm : Sum := ⟨(.cons cHeap (.cons (.sl (.arr 4 cI)) (.cons cI (.cons cI .nil)))), (.cons (.d .bool) .nil), flotsamlaw11_TakeOthers⟩
noncomputable def flotsamlaw11_TakeOthers_L0 : LoopSum := { hc := ⟨[], [1, 2, 3, 4, 9, 10, 11, 12, 13, 14], [], [], [0, 336], [], 592⟩, h := ⟨[(1, (.d (.sl (.arr 4 cI)))), (2, (.d cI)), (3, (.d cI)), (4, (.pvar 0 [])), (9, (.pvar 336 [])), (10, (.d (.sl (.arr 4 cI)))), (11, (.d cI)), (12, (.d .bool)), (13, (.d cI)), (14, (.d cI))], [(0, (.d cHeap)), (336, (.d cHeap))], [], 592⟩, xid := 2, oc := ⟨[], [1, 2, 3, 4, 9, 10, 11, 12, 13], [], [], [0, 336], [], 592⟩, o := ⟨[(1, (.d (.sl (.arr 4 cI)))), (2, (.d cI)), (3, (.d cI)), (4, (.pvar 0 [])), (9, (.pvar 336 [])), (10, (.d (.sl (.arr 4 cI)))), (11, (.d cI)), (12, (.d .bool)), (13, (.d cI))], [(0, (.d cHeap)), (336, (.d cHeap))], [], 592⟩, rc := ⟨[], [8], [], [], [], [], 592⟩, r := ⟨[(8, (.d .bool))], [], [], 592⟩, F := flotsamlaw11_TakeOthers_l0 }
noncomputable def flotsamlaw11_TakeOthers_L1 : LoopSum := { hc := ⟨[], [1, 2, 3, 4, 9, 10, 11, 12, 13], [], [], [0, 336], [], 512⟩, h := ⟨[(1, (.d (.sl (.arr 4 cI)))), (2, (.d cI)), (3, (.d cI)), (4, (.pvar 0 [])), (9, (.pvar 336 [])), (10, (.d (.sl (.arr 4 cI)))), (11, (.d cI)), (12, (.d .bool)), (13, (.d cI))], [(0, (.d cHeap)), (336, (.d cHeap))], [], 512⟩, xid := 0, oc := ⟨[], [2, 3, 4, 9, 10, 11, 12], [], [], [0, 336], [], 512⟩, o := ⟨[(2, (.d cI)), (3, (.d cI)), (4, (.pvar 0 [])), (9, (.pvar 336 [])), (10, (.d (.sl (.arr 4 cI)))), (11, (.d cI)), (12, (.d .bool))], [(0, (.d cHeap)), (336, (.d cHeap))], [], 512⟩, rc := ⟨[], [8], [], [], [], [], 512⟩, r := ⟨[(8, (.d .bool))], [], [], 512⟩, F := flotsamlaw11_TakeOthers_l1 }
noncomputable def flotsamlaw11_TakeOthers_L2 : LoopSum := { hc := ⟨[], [4, 9, 11, 15, 20], [], [], [0, 336], [], 608⟩, h := ⟨[(4, (.pvar 0 [])), (9, (.pvar 336 [])), (11, (.d cI)), (15, (.d cI)), (20, (.d cI))], [(0, (.d cHeap)), (336, (.d cHeap))], [], 608⟩, xid := 4, oc := ⟨[], [9, 15], [], [], [336], [], 608⟩, o := ⟨[(9, (.pvar 336 [])), (15, (.d cI))], [(336, (.d cHeap))], [], 608⟩, rc := ⟨[], [8], [], [], [], [], 608⟩, r := ⟨[(8, (.d .bool))], [], [], 608⟩, F := flotsamlaw11_TakeOthers_l2 }
noncomputable def flotsamlaw11_TakeOthers_S : List (Nat × Sum) := [(9, flotsamlaw11_awake_sm), (15, flotsamlaw11_right_sm), (18, take_Take_sm), (20, flotsamref07_Same_sm), (24, flotsamref07_Used_sm)]
noncomputable def flotsamlaw11_TakeOthers_fl : List (Nat × Func) := []
noncomputable def flotsamlaw11_TakeOthers_es : List AE := [⟨8, 8, 0, 2, flotsamlaw11_TakeOthers_L0⟩, ⟨8, 8, 0, 0, flotsamlaw11_TakeOthers_L1⟩, ⟨8, 8, 0, 4, flotsamlaw11_TakeOthers_L2⟩]
theorem flotsamlaw11_TakeOthers_den0 : (fun x => denStep TEv (look1 flotsamlaw11_TakeOthers_S) (look1 flotsamlaw11_TakeOthers_fl) (annOf flotsamlaw11_TakeOthers_es) 8 8 Go.Proofs.Tryd.f8.ntmps 0 (cat (bodyOf Go.Proofs.Tryd.f8) [true, true, true, true, false, true, false, false, true, false, false, true, false, false]) flotsamlaw11_TakeOthers_L0 x) = flotsamlaw11_TakeOthers_s0 := by kernel_rfl
theorem flotsamlaw11_TakeOthers_den1 : (fun x => denStep TEv (look1 flotsamlaw11_TakeOthers_S) (look1 flotsamlaw11_TakeOthers_fl) (annOf flotsamlaw11_TakeOthers_es) 8 8 Go.Proofs.Tryd.f8.ntmps 0 (cat (bodyOf Go.Proofs.Tryd.f8) [true, true, true, true, false, true, false, false]) flotsamlaw11_TakeOthers_L1 x) = flotsamlaw11_TakeOthers_s1 := by kernel_rfl
theorem flotsamlaw11_TakeOthers_den2 : (fun x => denStep TEv (look1 flotsamlaw11_TakeOthers_S) (look1 flotsamlaw11_TakeOthers_fl) (annOf flotsamlaw11_TakeOthers_es) 8 8 Go.Proofs.Tryd.f8.ntmps 0 (cat (bodyOf Go.Proofs.Tryd.f8) [true, true, true, true, true, true, true, false, true, false, false]) flotsamlaw11_TakeOthers_L2 x) = flotsamlaw11_TakeOthers_s2 := by kernel_rfl
theorem flotsamlaw11_TakeOthers_den : (fun x => denFun TEv (look1 flotsamlaw11_TakeOthers_S) (look1 flotsamlaw11_TakeOthers_fl) (annOf flotsamlaw11_TakeOthers_es) 8 8 Go.Proofs.Tryd.f8 flotsamlaw11_TakeOthers_sm.a flotsamlaw11_TakeOthers_sm.r x) = flotsamlaw11_TakeOthers_sm.F := by kernel_rfl
theorem flotsamlaw11_TakeOthers_ok0 : AEok Go.Proofs.Tryd.prog TEv (look1 flotsamlaw11_TakeOthers_S) (look1 flotsamlaw11_TakeOthers_fl) (annOf flotsamlaw11_TakeOthers_es) ⟨8, 8, 0, 2, flotsamlaw11_TakeOthers_L0⟩ := aeok_of 9223372036854775808 Go.Proofs.Tryd.func8 (by kernel_rfl) flotsamlaw11_TakeOthers_den0 (by kernel_rfl)
theorem flotsamlaw11_TakeOthers_ok1 : AEok Go.Proofs.Tryd.prog TEv (look1 flotsamlaw11_TakeOthers_S) (look1 flotsamlaw11_TakeOthers_fl) (annOf flotsamlaw11_TakeOthers_es) ⟨8, 8, 0, 0, flotsamlaw11_TakeOthers_L1⟩ := aeok_of 9223372036854775808 Go.Proofs.Tryd.func8 (by kernel_rfl) flotsamlaw11_TakeOthers_den1 (by kernel_rfl)
theorem flotsamlaw11_TakeOthers_ok2 : AEok Go.Proofs.Tryd.prog TEv (look1 flotsamlaw11_TakeOthers_S) (look1 flotsamlaw11_TakeOthers_fl) (annOf flotsamlaw11_TakeOthers_es) ⟨8, 8, 0, 4, flotsamlaw11_TakeOthers_L2⟩ := aeok_of 9223372036854775808 Go.Proofs.Tryd.func8 (by kernel_rfl) flotsamlaw11_TakeOthers_den2 (by kernel_rfl)
theorem flotsamlaw11_TakeOthers_sem : SemOf Go.Proofs.Tryd.prog 8 flotsamlaw11_TakeOthers_sm :=
  semMk teOk (sl := flotsamlaw11_TakeOthers_S) (all_cons flotsamlaw11_awake_sem (all_cons flotsamlaw11_right_sem (all_cons take_Take_sem (all_cons flotsamref07_Same_sem (all_cons flotsamref07_Used_sem all_nil))))) (fl := flotsamlaw11_TakeOthers_fl) (all_nil) (es := flotsamlaw11_TakeOthers_es) Go.Proofs.Tryd.func8 (by kernel_rfl) rfl (all_cons flotsamlaw11_TakeOthers_ok0 (all_cons flotsamlaw11_TakeOthers_ok1 (all_cons flotsamlaw11_TakeOthers_ok2 (all_nil)))) rfl flotsamlaw11_TakeOthers_den
end Go.Proofs.YtebdioogklmeaaaDoor.Den
