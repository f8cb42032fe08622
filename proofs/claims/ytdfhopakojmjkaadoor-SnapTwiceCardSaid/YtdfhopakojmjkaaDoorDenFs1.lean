/- What functions come to. Printed by a program of this session. -/
import Derived.Test.YtdfhopakojmjkaaDoorDenFs0
namespace Go.Proofs.YtdfhopakojmjkaaDoor.Den
open Go
set_option maxRecDepth 100000
set_option linter.unusedVariables false
/-! ### flotsam/flotsamlaw18.awake -/
def flotsamlaw18_awake_r  : Option (Bool × Unit) :=
  (flotsamref07_Made (1, [], ())).bind fun y1 =>
  (snap_Begin ((0, 0, 0, 2, 1, ()), y1.1, [([(1, 7, ())], 3, (0, 0, 0, 0, ()), 0, (1, 5, ()), List.replicate 4 0, ()), ([], 4, (0, 0, 0, 0, ()), 4, (1, 6, ()), List.replicate 4 0, ())], ())).bind fun y2 =>
  (snap_Registers (([(1, 7, ())], 3, (0, 0, 0, 0, ()), 0, (1, 5, ()), List.replicate 4 0, ()), ())).bind fun y3 =>
  (flotsamref01_Same (y3.1, [(1, 5, ())], ())).bind fun y4 =>
  bif y4.1 then
    (snap_Held ([([(1, 7, ())], 3, (0, 0, 0, 0, ()), 0, (1, 5, ()), List.replicate 4 0, ()), ([], 4, (0, 0, 0, 0, ()), 4, (1, 6, ()), List.replicate 4 0, ())], ())).bind fun y5 =>
    (flotsamref01_Same (y5.1, [(1, 7, ()), (1, 5, ()), (2, 4, ()), (1, 6, ())], ())).bind fun y6 =>
    bif y6.1 then
      (snap_Pending (y1.1, [([(1, 7, ())], 3, (0, 0, 0, 0, ()), 0, (1, 5, ()), List.replicate 4 0, ()), ([], 4, (0, 0, 0, 0, ()), 4, (1, 6, ()), List.replicate 4 0, ())], ())).bind fun y7 =>
      (flotsamref01_Same (y7.1, [(0, 0, ())], ())).bind fun y8 =>
      bif y8.1 then
        bif y2.1.2.2.1 then
          (flotsamref01_Same (y2.2.1.2.2.1, [(1, 7, ()), (1, 5, ()), (2, 4, ()), (1, 6, ()), (0, 0, ())], ())).bind fun y9 =>
          bif y9.1 then
            bif (y2.2.1.2.1.length : Int) == 2 then
              bif y2.2.1.1.1 == 2 then
                bif y2.2.1.2.2.2.1 == (-1) then
                  some (y2.2.1.2.2.2.2.2.1 == (-1), ())
                else
                some (false, ())
              else
              some (false, ())
            else
            some (false, ())
          else
          some (false, ())
        else
        some (false, ())
      else
      some (false, ())
    else
    some (false, ())
  else
  some (false, ())
def flotsamlaw18_awake (x : Unit) : Option (Bool × Unit) := flotsamlaw18_awake_r 
noncomputable def flotsamlaw18_awake_sm : Sum := ⟨.nil, (.cons (.d .bool) .nil), flotsamlaw18_awake⟩
noncomputable def flotsamlaw18_awake_S : List (Nat × Sum) := [(45, flotsamref07_Made_sm), (62, snap_Begin_sm), (121, flotsamref01_Same_sm), (122, snap_Registers_sm), (123, snap_Held_sm), (124, snap_Pending_sm)]
noncomputable def flotsamlaw18_awake_fl : List (Nat × Func) := []
noncomputable def flotsamlaw18_awake_es : List AE := []
theorem flotsamlaw18_awake_den : (fun x => denFun TEv (look1 flotsamlaw18_awake_S) (look1 flotsamlaw18_awake_fl) (annOf flotsamlaw18_awake_es) 8 60 Go.Proofs.Tryd.f60 flotsamlaw18_awake_sm.a flotsamlaw18_awake_sm.r x) = flotsamlaw18_awake_sm.F := by kernel_rfl
theorem flotsamlaw18_awake_sem : SemOf Go.Proofs.Tryd.prog 60 flotsamlaw18_awake_sm :=
  semMk teOk (sl := flotsamlaw18_awake_S) (all_cons flotsamref07_Made_sem (all_cons snap_Begin_sem (all_cons flotsamref01_Same_sem (all_cons snap_Registers_sem (all_cons snap_Held_sem (all_cons snap_Pending_sem all_nil)))))) (fl := flotsamlaw18_awake_fl) (all_nil) (es := flotsamlaw18_awake_es) Go.Proofs.Tryd.func60 (by kernel_rfl) rfl (all_nil) rfl flotsamlaw18_awake_den

/-! ### flotsam/flotsamref18.Few -/
def flotsamref18_Few_s0r (v0 : List ((List Val) × Int × (Int × Int × Val) × Int × Val × (List Int) × Unit)) (v3 : Int) : Option (SRes (.cons (.sl (.cons (.sl cVal) (.cons cI (.cons (.cons cI (.cons cI cVal)) (.cons cI (.cons cVal (.cons (.arr 4 cI) .nil))))))) (.cons cI .nil)) (.cons (.sl (.cons (.sl cVal) (.cons cI (.cons (.cons cI (.cons cI cVal)) (.cons cI (.cons cVal (.cons (.arr 4 cI) .nil))))))) .nil) (.cons .bool .nil)) :=
  bif decide (v3 < (v0.length : Int)) then
    bif decide (v3 < 20) then
      bif decide (0 ≤ v3) then
        bif decide (v3 < (v0.length : Int)) then
          bif decide (((v0.getD v3.toNat ([], 0, (0, 0, 0, 0, ()), 0, (0, 0, ()), List.replicate 4 0, ())).1.length : Int) > 20) then
            some (.fin (.ret (false, ())))
          else
          some (.next (v0, wi64 (v3 + 1), ()))
        else none
      else none
    else
    some (.fin (.out (v0, ())))
  else
  some (.fin (.out (v0, ())))
def flotsamref18_Few_s0 (x : (List ((List Val) × Int × (Int × Int × Val) × Int × Val × (List Int) × Unit)) × Int × Unit) : Option (SRes (.cons (.sl (.cons (.sl cVal) (.cons cI (.cons (.cons cI (.cons cI cVal)) (.cons cI (.cons cVal (.cons (.arr 4 cI) .nil))))))) (.cons cI .nil)) (.cons (.sl (.cons (.sl cVal) (.cons cI (.cons (.cons cI (.cons cI cVal)) (.cons cI (.cons cVal (.cons (.arr 4 cI) .nil))))))) .nil) (.cons .bool .nil)) := flotsamref18_Few_s0r x.1 x.2.1
def flotsamref18_Few_l0 (x : (List ((List Val) × Int × (Int × Int × Val) × Int × Val × (List Int) × Unit)) × Int × Unit) : Option (LRes (.cons (.sl (.cons (.sl cVal) (.cons cI (.cons (.cons cI (.cons cI cVal)) (.cons cI (.cons cVal (.cons (.arr 4 cI) .nil))))))) .nil) (.cons .bool .nil)) := iterL (h := (.cons (.sl (.cons (.sl cVal) (.cons cI (.cons (.cons cI (.cons cI cVal)) (.cons cI (.cons cVal (.cons (.arr 4 cI) .nil))))))) (.cons cI .nil))) (o := (.cons (.sl (.cons (.sl cVal) (.cons cI (.cons (.cons cI (.cons cI cVal)) (.cons cI (.cons cVal (.cons (.arr 4 cI) .nil))))))) .nil)) (r := (.cons .bool .nil)) flotsamref18_Few_s0 9223372036854775808 x
def flotsamref18_Few_r (a0 : List ((List Val) × Int × (Int × Int × Val) × Int × Val × (List Int) × Unit)) : Option (Bool × Unit) :=
  (flotsamref18_Few_l0 (a0, 0, ())).bind fun s1 => match s1 with
  | .out s1 =>
    some (decide ((s1.1.length : Int) ≤ 10), ())
  | .ret s1 =>
    some (s1.1, ())
def flotsamref18_Few (x : (List ((List Val) × Int × (Int × Int × Val) × Int × Val × (List Int) × Unit)) × Unit) : Option (Bool × Unit) := flotsamref18_Few_r x.1
noncomputable def flotsamref18_Few_sm : Sum := ⟨(.cons (.sl (.cons (.sl cVal) (.cons cI (.cons (.cons cI (.cons cI cVal)) (.cons cI (.cons cVal (.cons (.arr 4 cI) .nil))))))) .nil), (.cons (.d .bool) .nil), flotsamref18_Few⟩
noncomputable def flotsamref18_Few_L0 : LoopSum := { hc := ⟨[], [0, 3], [], [], [], [], 32⟩, h := ⟨[(0, (.d (.sl (.cons (.sl cVal) (.cons cI (.cons (.cons cI (.cons cI cVal)) (.cons cI (.cons cVal (.cons (.arr 4 cI) .nil))))))))), (3, (.d cI))], [], [], 32⟩, xid := 0, oc := ⟨[], [0], [], [], [], [], 32⟩, o := ⟨[(0, (.d (.sl (.cons (.sl cVal) (.cons cI (.cons (.cons cI (.cons cI cVal)) (.cons cI (.cons cVal (.cons (.arr 4 cI) .nil)))))))))], [], [], 32⟩, rc := ⟨[], [2], [], [], [], [], 32⟩, r := ⟨[(2, (.d .bool))], [], [], 32⟩, F := flotsamref18_Few_l0 }
noncomputable def flotsamref18_Few_S : List (Nat × Sum) := []
noncomputable def flotsamref18_Few_fl : List (Nat × Func) := []
noncomputable def flotsamref18_Few_es : List AE := [⟨8, 125, 0, 0, flotsamref18_Few_L0⟩]
theorem flotsamref18_Few_den0 : (fun x => denStep TEv (look1 flotsamref18_Few_S) (look1 flotsamref18_Few_fl) (annOf flotsamref18_Few_es) 8 125 Go.Proofs.Tryd.f125.ntmps 0 (cat (bodyOf Go.Proofs.Tryd.f125) [true, false, true, false, false]) flotsamref18_Few_L0 x) = flotsamref18_Few_s0 := by kernel_rfl
theorem flotsamref18_Few_den : (fun x => denFun TEv (look1 flotsamref18_Few_S) (look1 flotsamref18_Few_fl) (annOf flotsamref18_Few_es) 8 125 Go.Proofs.Tryd.f125 flotsamref18_Few_sm.a flotsamref18_Few_sm.r x) = flotsamref18_Few_sm.F := by kernel_rfl
theorem flotsamref18_Few_ok0 : AEok Go.Proofs.Tryd.prog TEv (look1 flotsamref18_Few_S) (look1 flotsamref18_Few_fl) (annOf flotsamref18_Few_es) ⟨8, 125, 0, 0, flotsamref18_Few_L0⟩ := aeok_of 9223372036854775808 Go.Proofs.Tryd.func125 (by kernel_rfl) flotsamref18_Few_den0 (by kernel_rfl)
theorem flotsamref18_Few_sem : SemOf Go.Proofs.Tryd.prog 125 flotsamref18_Few_sm :=
  semMk teOk (sl := flotsamref18_Few_S) (all_nil) (fl := flotsamref18_Few_fl) (all_nil) (es := flotsamref18_Few_es) Go.Proofs.Tryd.func125 (by kernel_rfl) rfl (all_cons flotsamref18_Few_ok0 (all_nil)) rfl flotsamref18_Few_den

/-! ### flotsam/flotsamlaw18.fits -/
def flotsamlaw18_fits_r (a0 : Heap) (a1 : List ((List Val) × Int × (Int × Int × Val) × Int × Val × (List Int) × Unit)) : Option (Bool × Unit) :=
  (flotsamref07_Form (a0, ())).bind fun y1 =>
  bif y1.1 then
    (flotsamref18_Few (a1, ())).bind fun y2 =>
    some (y2.1, ())
  else
  some (false, ())
def flotsamlaw18_fits (x : Heap × (List ((List Val) × Int × (Int × Int × Val) × Int × Val × (List Int) × Unit)) × Unit) : Option (Bool × Unit) := flotsamlaw18_fits_r x.1 x.2.1
noncomputable def flotsamlaw18_fits_sm : Sum := ⟨(.cons cHeap (.cons (.sl (.cons (.sl cVal) (.cons cI (.cons (.cons cI (.cons cI cVal)) (.cons cI (.cons cVal (.cons (.arr 4 cI) .nil))))))) .nil)), (.cons (.d .bool) .nil), flotsamlaw18_fits⟩
noncomputable def flotsamlaw18_fits_S : List (Nat × Sum) := [(21, flotsamref07_Form_sm), (125, flotsamref18_Few_sm)]
noncomputable def flotsamlaw18_fits_fl : List (Nat × Func) := []
noncomputable def flotsamlaw18_fits_es : List AE := []
theorem flotsamlaw18_fits_den : (fun x => denFun TEv (look1 flotsamlaw18_fits_S) (look1 flotsamlaw18_fits_fl) (annOf flotsamlaw18_fits_es) 8 61 Go.Proofs.Tryd.f61 flotsamlaw18_fits_sm.a flotsamlaw18_fits_sm.r x) = flotsamlaw18_fits_sm.F := by kernel_rfl
theorem flotsamlaw18_fits_sem : SemOf Go.Proofs.Tryd.prog 61 flotsamlaw18_fits_sm :=
  semMk teOk (sl := flotsamlaw18_fits_S) (all_cons flotsamref07_Form_sem (all_cons flotsamref18_Few_sem all_nil)) (fl := flotsamlaw18_fits_fl) (all_nil) (es := flotsamlaw18_fits_es) Go.Proofs.Tryd.func61 (by kernel_rfl) rfl (all_nil) rfl flotsamlaw18_fits_den

/-! ### flotsam/flotsamref17.New -/
def flotsamref17_New_s0r (v1 : List Int) (v8 : Int) (c0_0 : Int) (c0_1 : Unit) (c0_2 : Int × Int × Int × Bool × Unit) (c64_0 : Int) (c64_1 : Unit) (c64_2 : Int × Int × Int × Bool × Unit) (r144 : List Val) (r208 : List Grey) : Option (SRes (.cons (.sl cI) (.cons cI (.cons cI (.cons .nil (.cons (.cons cI (.cons cI (.cons cI (.cons .bool .nil)))) (.cons cI (.cons .nil (.cons (.cons cI (.cons cI (.cons cI (.cons .bool .nil)))) (.cons (.sl cVal) (.cons (.sl cGrey) .nil)))))))))) (.cons cI (.cons .nil (.cons (.cons cI (.cons cI (.cons cI (.cons .bool .nil)))) (.cons cI (.cons .nil (.cons (.cons cI (.cons cI (.cons cI (.cons .bool .nil)))) (.cons (.sl cVal) (.cons (.sl cGrey) .nil)))))))) .nil) :=
  bif decide (v8 < (v1.length : Int)) then
    bif decide (0 ≤ v8) then
      bif decide (v8 < (v1.length : Int)) then
        bif decide ((r208.length + 1) * 32 ≤ 140737488355328) then
          some (.next (v1, wi64 (v8 + 1), c0_0, c0_1, c0_2, c64_0, c64_1, c64_2, r144, r208 ++ [(v1.getD v8.toNat 0, [], ())], ()))
        else none
      else none
    else none
  else
  some (.fin (.out (c0_0, c0_1, c0_2, c64_0, c64_1, c64_2, r144, r208, ())))
def flotsamref17_New_s0 (x : (List Int) × Int × Int × Unit × (Int × Int × Int × Bool × Unit) × Int × Unit × (Int × Int × Int × Bool × Unit) × (List Val) × (List Grey) × Unit) : Option (SRes (.cons (.sl cI) (.cons cI (.cons cI (.cons .nil (.cons (.cons cI (.cons cI (.cons cI (.cons .bool .nil)))) (.cons cI (.cons .nil (.cons (.cons cI (.cons cI (.cons cI (.cons .bool .nil)))) (.cons (.sl cVal) (.cons (.sl cGrey) .nil)))))))))) (.cons cI (.cons .nil (.cons (.cons cI (.cons cI (.cons cI (.cons .bool .nil)))) (.cons cI (.cons .nil (.cons (.cons cI (.cons cI (.cons cI (.cons .bool .nil)))) (.cons (.sl cVal) (.cons (.sl cGrey) .nil)))))))) .nil) := flotsamref17_New_s0r x.1 x.2.1 x.2.2.1 x.2.2.2.1 x.2.2.2.2.1 x.2.2.2.2.2.1 x.2.2.2.2.2.2.1 x.2.2.2.2.2.2.2.1 x.2.2.2.2.2.2.2.2.1 x.2.2.2.2.2.2.2.2.2.1
def flotsamref17_New_l0 (x : (List Int) × Int × Int × Unit × (Int × Int × Int × Bool × Unit) × Int × Unit × (Int × Int × Int × Bool × Unit) × (List Val) × (List Grey) × Unit) : Option (LRes (.cons cI (.cons .nil (.cons (.cons cI (.cons cI (.cons cI (.cons .bool .nil)))) (.cons cI (.cons .nil (.cons (.cons cI (.cons cI (.cons cI (.cons .bool .nil)))) (.cons (.sl cVal) (.cons (.sl cGrey) .nil)))))))) .nil) := iterL (h := (.cons (.sl cI) (.cons cI (.cons cI (.cons .nil (.cons (.cons cI (.cons cI (.cons cI (.cons .bool .nil)))) (.cons cI (.cons .nil (.cons (.cons cI (.cons cI (.cons cI (.cons .bool .nil)))) (.cons (.sl cVal) (.cons (.sl cGrey) .nil))))))))))) (o := (.cons cI (.cons .nil (.cons (.cons cI (.cons cI (.cons cI (.cons .bool .nil)))) (.cons cI (.cons .nil (.cons (.cons cI (.cons cI (.cons cI (.cons .bool .nil)))) (.cons (.sl cVal) (.cons (.sl cGrey) .nil))))))))) (r := .nil) flotsamref17_New_s0 9223372036854775808 x
def flotsamref17_New_r (a0 : Int) (a1 : List Int) (a2 : List Val) : Option ((Grey × (List Grey) × (List Val) × Int × Int × Int × Bool × Unit) × Unit) :=
  bif decide (a2.length * 16 ≤ 140737488355328) then
    (flotsamref17_New_l0 (a1, 0, 0, (), (0, 0, 0, false, ()), a0, (), ((-1), 0, (-1), false, ()), a2, [], ())).bind fun s1 => match s1 with
    | .out s1 =>
      some (((s1.2.2.2.1, [], s1.2.2.2.2.1), s1.2.2.2.2.2.2.2.1, s1.2.2.2.2.2.2.1, s1.2.2.2.2.2.1), ())
    | .ret s1 =>
      none
  else none
def flotsamref17_New (x : Int × (List Int) × (List Val) × Unit) : Option ((Grey × (List Grey) × (List Val) × Int × Int × Int × Bool × Unit) × Unit) := flotsamref17_New_r x.1 x.2.1 x.2.2.1
noncomputable def flotsamref17_New_sm : Sum := ⟨(.cons cI (.cons (.sl cI) (.cons (.sl cVal) .nil))), (.cons (.cons (.cons (.d cI) (.cons (.own cI) (.d .nil))) (.cons (.own cGrey) (.cons (.own cVal) (.d (.cons cI (.cons cI (.cons cI (.cons .bool .nil)))))))) .nil), flotsamref17_New⟩
noncomputable def flotsamref17_New_L0 : LoopSum := { hc := ⟨[], [1, 6, 7, 8], [(.key 64 [.fld 1], cGrey)], [], [0, 64], [144], 208⟩, h := ⟨[(1, (.d (.sl cI))), (6, (.pvar 0 [])), (7, (.pvar 64 [])), (8, (.d cI))], [(0, (.cons (.cons (.d cI) (.cons .nilsl (.d .nil))) (.cons .nilsl (.cons .nilsl (.d (.cons cI (.cons cI (.cons cI (.cons .bool .nil))))))))), (64, (.cons (.cons (.d cI) (.cons .nilsl (.d .nil))) (.cons (.row 208) (.cons (.row 144) (.d (.cons cI (.cons cI (.cons cI (.cons .bool .nil)))))))))], [(144, cVal, true), (208, cGrey, true)], 209⟩, xid := 0, oc := ⟨[], [6, 7], [(.ptr 7 [.fld 1], cGrey)], [], [0, 64], [144], 208⟩, o := ⟨[(6, (.pvar 0 [])), (7, (.pvar 64 []))], [(0, (.cons (.cons (.d cI) (.cons .nilsl (.d .nil))) (.cons .nilsl (.cons .nilsl (.d (.cons cI (.cons cI (.cons cI (.cons .bool .nil))))))))), (64, (.cons (.cons (.d cI) (.cons .nilsl (.d .nil))) (.cons (.row 208) (.cons (.row 144) (.d (.cons cI (.cons cI (.cons cI (.cons .bool .nil)))))))))], [(144, cVal, true), (208, cGrey, true)], 209⟩, rc := ⟨[], [], [], [], [208], [], 208⟩, r := ⟨[], [], [], 208⟩, F := flotsamref17_New_l0 }
noncomputable def flotsamref17_New_S : List (Nat × Sum) := []
noncomputable def flotsamref17_New_fl : List (Nat × Func) := []
noncomputable def flotsamref17_New_es : List AE := [⟨8, 131, 0, 0, flotsamref17_New_L0⟩]
theorem flotsamref17_New_den0 : (fun x => denStep TEv (look1 flotsamref17_New_S) (look1 flotsamref17_New_fl) (annOf flotsamref17_New_es) 8 131 Go.Proofs.Tryd.f131.ntmps 0 (cat (bodyOf Go.Proofs.Tryd.f131) [true, true, true, false, true, false, false]) flotsamref17_New_L0 x) = flotsamref17_New_s0 := by kernel_rfl
theorem flotsamref17_New_den : (fun x => denFun TEv (look1 flotsamref17_New_S) (look1 flotsamref17_New_fl) (annOf flotsamref17_New_es) 8 131 Go.Proofs.Tryd.f131 flotsamref17_New_sm.a flotsamref17_New_sm.r x) = flotsamref17_New_sm.F := by kernel_rfl
theorem flotsamref17_New_ok0 : AEok Go.Proofs.Tryd.prog TEv (look1 flotsamref17_New_S) (look1 flotsamref17_New_fl) (annOf flotsamref17_New_es) ⟨8, 131, 0, 0, flotsamref17_New_L0⟩ := aeok_of 9223372036854775808 Go.Proofs.Tryd.func131 (by kernel_rfl) flotsamref17_New_den0 (by kernel_rfl)
theorem flotsamref17_New_sem : SemOf Go.Proofs.Tryd.prog 131 flotsamref17_New_sm :=
  semMk teOk (sl := flotsamref17_New_S) (all_nil) (fl := flotsamref17_New_fl) (all_nil) (es := flotsamref17_New_es) Go.Proofs.Tryd.func131 (by kernel_rfl) rfl (all_cons flotsamref17_New_ok0 (all_nil)) rfl flotsamref17_New_den

/-! ### flotsam/flotsamref18.Registers -/
def flotsamref18_Registers_r (a0 : (List Val) × Int × (Int × Int × Val) × Int × Val × (List Int) × Unit) : Option ((List Val) × Unit) :=
  bif a0.2.1 == 2 then
    bif a0.2.1 == 3 then
      some ([(2, a0.2.2.2.1, ()), a0.2.2.2.2.1], ())
    else
    bif a0.2.1 == 4 then
      some ([(2, a0.2.2.2.1, ()), a0.2.2.2.2.1], ())
    else
    some ([(2, a0.2.2.2.1, ())], ())
  else
  bif a0.2.1 == 4 then
    bif a0.2.1 == 3 then
      some ([(2, a0.2.2.2.1, ()), a0.2.2.2.2.1], ())
    else
    bif a0.2.1 == 4 then
      some ([(2, a0.2.2.2.1, ()), a0.2.2.2.2.1], ())
    else
    some ([(2, a0.2.2.2.1, ())], ())
  else
  bif a0.2.1 == 3 then
    some ([a0.2.2.2.2.1], ())
  else
  bif a0.2.1 == 4 then
    some ([a0.2.2.2.2.1], ())
  else
  some ([], ())
def flotsamref18_Registers (x : ((List Val) × Int × (Int × Int × Val) × Int × Val × (List Int) × Unit) × Unit) : Option ((List Val) × Unit) := flotsamref18_Registers_r x.1
noncomputable def flotsamref18_Registers_sm : Sum := ⟨(.cons (.cons (.sl cVal) (.cons cI (.cons (.cons cI (.cons cI cVal)) (.cons cI (.cons cVal (.cons (.arr 4 cI) .nil)))))) .nil), (.cons (.own cVal) .nil), flotsamref18_Registers⟩
noncomputable def flotsamref18_Registers_S : List (Nat × Sum) := []
noncomputable def flotsamref18_Registers_fl : List (Nat × Func) := []
noncomputable def flotsamref18_Registers_es : List AE := []
theorem flotsamref18_Registers_den : (fun x => denFun TEv (look1 flotsamref18_Registers_S) (look1 flotsamref18_Registers_fl) (annOf flotsamref18_Registers_es) 8 166 Go.Proofs.Tryd.f166 flotsamref18_Registers_sm.a flotsamref18_Registers_sm.r x) = flotsamref18_Registers_sm.F := by kernel_rfl
theorem flotsamref18_Registers_sem : SemOf Go.Proofs.Tryd.prog 166 flotsamref18_Registers_sm :=
  semMk teOk (sl := flotsamref18_Registers_S) (all_nil) (fl := flotsamref18_Registers_fl) (all_nil) (es := flotsamref18_Registers_es) Go.Proofs.Tryd.func166 (by kernel_rfl) rfl (all_nil) rfl flotsamref18_Registers_den

/-! ### flotsam/flotsamref18.Held -/
def flotsamref18_Held_s0r (v0 : List ((List Val) × Int × (Int × Int × Val) × Int × Val × (List Int) × Unit)) (v4 : Int) (r48 : List Val) : Option (SRes (.cons (.sl (.cons (.sl cVal) (.cons cI (.cons (.cons cI (.cons cI cVal)) (.cons cI (.cons cVal (.cons (.arr 4 cI) .nil))))))) (.cons cI (.cons (.sl cVal) .nil))) (.cons (.sl cVal) .nil) .nil) :=
  bif decide (v4 < (v0.length : Int)) then
    bif decide (0 ≤ v4) then
      bif decide (v4 < (v0.length : Int)) then
        bif decide ((r48.length + (v0.getD v4.toNat ([], 0, (0, 0, 0, 0, ()), 0, (0, 0, ()), List.replicate 4 0, ())).1.length) * 16 ≤ 140737488355328) then
          bif decide (0 ≤ v4) then
            bif decide (v4 < (v0.length : Int)) then
              (flotsamref18_Registers (v0.getD v4.toNat ([], 0, (0, 0, 0, 0, ()), 0, (0, 0, ()), List.replicate 4 0, ()), ())).bind fun y1 =>
              bif decide (((r48 ++ (v0.getD v4.toNat ([], 0, (0, 0, 0, 0, ()), 0, (0, 0, ()), List.replicate 4 0, ())).1).length + y1.1.length) * 16 ≤ 140737488355328) then
                some (.next (v0, wi64 (v4 + 1), (r48 ++ (v0.getD v4.toNat ([], 0, (0, 0, 0, 0, ()), 0, (0, 0, ()), List.replicate 4 0, ())).1) ++ y1.1, ()))
              else none
            else none
          else none
        else none
      else none
    else none
  else
  some (.fin (.out (r48, ())))
def flotsamref18_Held_s0 (x : (List ((List Val) × Int × (Int × Int × Val) × Int × Val × (List Int) × Unit)) × Int × (List Val) × Unit) : Option (SRes (.cons (.sl (.cons (.sl cVal) (.cons cI (.cons (.cons cI (.cons cI cVal)) (.cons cI (.cons cVal (.cons (.arr 4 cI) .nil))))))) (.cons cI (.cons (.sl cVal) .nil))) (.cons (.sl cVal) .nil) .nil) := flotsamref18_Held_s0r x.1 x.2.1 x.2.2.1
def flotsamref18_Held_l0 (x : (List ((List Val) × Int × (Int × Int × Val) × Int × Val × (List Int) × Unit)) × Int × (List Val) × Unit) : Option (LRes (.cons (.sl cVal) .nil) .nil) := iterL (h := (.cons (.sl (.cons (.sl cVal) (.cons cI (.cons (.cons cI (.cons cI cVal)) (.cons cI (.cons cVal (.cons (.arr 4 cI) .nil))))))) (.cons cI (.cons (.sl cVal) .nil)))) (o := (.cons (.sl cVal) .nil)) (r := .nil) flotsamref18_Held_s0 9223372036854775808 x
def flotsamref18_Held_r (a0 : List ((List Val) × Int × (Int × Int × Val) × Int × Val × (List Int) × Unit)) : Option ((List Val) × Unit) :=
  (flotsamref18_Held_l0 (a0, 0, [], ())).bind fun s2 => match s2 with
  | .out s2 =>
    some (s2.1, ())
  | .ret s2 =>
    none
def flotsamref18_Held (x : (List ((List Val) × Int × (Int × Int × Val) × Int × Val × (List Int) × Unit)) × Unit) : Option ((List Val) × Unit) := flotsamref18_Held_r x.1
noncomputable def flotsamref18_Held_sm : Sum := ⟨(.cons (.sl (.cons (.sl cVal) (.cons cI (.cons (.cons cI (.cons cI cVal)) (.cons cI (.cons cVal (.cons (.arr 4 cI) .nil))))))) .nil), (.cons (.own cVal) .nil), flotsamref18_Held⟩
noncomputable def flotsamref18_Held_L0 : LoopSum := { hc := ⟨[], [0, 3, 4], [(.tmp 3, cVal)], [], [], [], 48⟩, h := ⟨[(0, (.d (.sl (.cons (.sl cVal) (.cons cI (.cons (.cons cI (.cons cI cVal)) (.cons cI (.cons cVal (.cons (.arr 4 cI) .nil))))))))), (3, (.row 48)), (4, (.d cI))], [], [(48, cVal, true)], 49⟩, xid := 0, oc := ⟨[], [3], [(.tmp 3, cVal)], [], [], [], 48⟩, o := ⟨[(3, (.row 48))], [], [(48, cVal, true)], 49⟩, rc := ⟨[], [], [], [], [48], [], 48⟩, r := ⟨[], [], [], 48⟩, F := flotsamref18_Held_l0 }
noncomputable def flotsamref18_Held_S : List (Nat × Sum) := [(166, flotsamref18_Registers_sm)]
noncomputable def flotsamref18_Held_fl : List (Nat × Func) := []
noncomputable def flotsamref18_Held_es : List AE := [⟨8, 132, 0, 0, flotsamref18_Held_L0⟩]
theorem flotsamref18_Held_den0 : (fun x => denStep TEv (look1 flotsamref18_Held_S) (look1 flotsamref18_Held_fl) (annOf flotsamref18_Held_es) 8 132 Go.Proofs.Tryd.f132.ntmps 0 (cat (bodyOf Go.Proofs.Tryd.f132) [true, true, false, true, false, false]) flotsamref18_Held_L0 x) = flotsamref18_Held_s0 := by kernel_rfl
theorem flotsamref18_Held_den : (fun x => denFun TEv (look1 flotsamref18_Held_S) (look1 flotsamref18_Held_fl) (annOf flotsamref18_Held_es) 8 132 Go.Proofs.Tryd.f132 flotsamref18_Held_sm.a flotsamref18_Held_sm.r x) = flotsamref18_Held_sm.F := by kernel_rfl
theorem flotsamref18_Held_ok0 : AEok Go.Proofs.Tryd.prog TEv (look1 flotsamref18_Held_S) (look1 flotsamref18_Held_fl) (annOf flotsamref18_Held_es) ⟨8, 132, 0, 0, flotsamref18_Held_L0⟩ := aeok_of 9223372036854775808 Go.Proofs.Tryd.func132 (by kernel_rfl) flotsamref18_Held_den0 (by kernel_rfl)
theorem flotsamref18_Held_sem : SemOf Go.Proofs.Tryd.prog 132 flotsamref18_Held_sm :=
  semMk teOk (sl := flotsamref18_Held_S) (all_cons flotsamref18_Registers_sem all_nil) (fl := flotsamref18_Held_fl) (all_nil) (es := flotsamref18_Held_es) Go.Proofs.Tryd.func132 (by kernel_rfl) rfl (all_cons flotsamref18_Held_ok0 (all_nil)) rfl flotsamref18_Held_den

/-! ### flotsam/flotsamref18.Pending -/
def flotsamref18_Pending_s0r (v1 : List ((List Val) × Int × (Int × Int × Val) × Int × Val × (List Int) × Unit)) (v6 : Int) (c0 : Heap) (r64 : List Val) : Option (SRes (.cons (.sl (.cons (.sl cVal) (.cons cI (.cons (.cons cI (.cons cI cVal)) (.cons cI (.cons cVal (.cons (.arr 4 cI) .nil))))))) (.cons cI (.cons cHeap (.cons (.sl cVal) .nil)))) (.cons (.sl cVal) .nil) .nil) :=
  bif decide (v6 < (v1.length : Int)) then
    bif decide (0 ≤ v6) then
      bif decide (v6 < (v1.length : Int)) then
        bif (v1.getD v6.toNat ([], 0, (0, 0, 0, 0, ()), 0, (0, 0, ()), List.replicate 4 0, ())).2.1 == 4 then
          bif decide (0 ≤ v6) then
            bif decide (v6 < (v1.length : Int)) then
              bif decide (0 ≤ v6) then
                bif decide (v6 < (v1.length : Int)) then
                  (flotsamref08_Field (c0, (v1.getD v6.toNat ([], 0, (0, 0, 0, 0, ()), 0, (0, 0, ()), List.replicate 4 0, ())).2.2.2.1, (v1.getD v6.toNat ([], 0, (0, 0, 0, 0, ()), 0, (0, 0, ()), List.replicate 4 0, ())).2.2.1.2.2.1, ())).bind fun y1 =>
                  bif decide ((r64.length + 1) * 16 ≤ 140737488355328) then
                    some (.next (v1, wi64 (v6 + 1), c0, r64 ++ [(y1.1.1, y1.1.2.1, ())], ()))
                  else none
                else none
              else none
            else none
          else none
        else
        some (.next (v1, wi64 (v6 + 1), c0, r64, ()))
      else none
    else none
  else
  some (.fin (.out (r64, ())))
def flotsamref18_Pending_s0 (x : (List ((List Val) × Int × (Int × Int × Val) × Int × Val × (List Int) × Unit)) × Int × Heap × (List Val) × Unit) : Option (SRes (.cons (.sl (.cons (.sl cVal) (.cons cI (.cons (.cons cI (.cons cI cVal)) (.cons cI (.cons cVal (.cons (.arr 4 cI) .nil))))))) (.cons cI (.cons cHeap (.cons (.sl cVal) .nil)))) (.cons (.sl cVal) .nil) .nil) := flotsamref18_Pending_s0r x.1 x.2.1 x.2.2.1 x.2.2.2.1
def flotsamref18_Pending_l0 (x : (List ((List Val) × Int × (Int × Int × Val) × Int × Val × (List Int) × Unit)) × Int × Heap × (List Val) × Unit) : Option (LRes (.cons (.sl cVal) .nil) .nil) := iterL (h := (.cons (.sl (.cons (.sl cVal) (.cons cI (.cons (.cons cI (.cons cI cVal)) (.cons cI (.cons cVal (.cons (.arr 4 cI) .nil))))))) (.cons cI (.cons cHeap (.cons (.sl cVal) .nil))))) (o := (.cons (.sl cVal) .nil)) (r := .nil) flotsamref18_Pending_s0 9223372036854775808 x
def flotsamref18_Pending_r (a0 : Heap) (a1 : List ((List Val) × Int × (Int × Int × Val) × Int × Val × (List Int) × Unit)) : Option ((List Val) × Unit) :=
  (flotsamref18_Pending_l0 (a1, 0, a0, [], ())).bind fun s2 => match s2 with
  | .out s2 =>
    some (s2.1, ())
  | .ret s2 =>
    none
def flotsamref18_Pending (x : Heap × (List ((List Val) × Int × (Int × Int × Val) × Int × Val × (List Int) × Unit)) × Unit) : Option ((List Val) × Unit) := flotsamref18_Pending_r x.1 x.2.1
noncomputable def flotsamref18_Pending_sm : Sum := ⟨(.cons cHeap (.cons (.sl (.cons (.sl cVal) (.cons cI (.cons (.cons cI (.cons cI cVal)) (.cons cI (.cons cVal (.cons (.arr 4 cI) .nil))))))) .nil)), (.cons (.own cVal) .nil), flotsamref18_Pending⟩
noncomputable def flotsamref18_Pending_L0 : LoopSum := { hc := ⟨[], [1, 2, 5, 6], [(.tmp 5, cVal)], [], [0], [], 64⟩, h := ⟨[(1, (.d (.sl (.cons (.sl cVal) (.cons cI (.cons (.cons cI (.cons cI cVal)) (.cons cI (.cons cVal (.cons (.arr 4 cI) .nil))))))))), (2, (.pvar 0 [])), (5, (.row 64)), (6, (.d cI))], [(0, (.d cHeap))], [(64, cVal, true)], 65⟩, xid := 0, oc := ⟨[], [5], [(.tmp 5, cVal)], [], [], [], 64⟩, o := ⟨[(5, (.row 64))], [], [(64, cVal, true)], 65⟩, rc := ⟨[], [], [], [], [64], [], 64⟩, r := ⟨[], [], [], 64⟩, F := flotsamref18_Pending_l0 }
noncomputable def flotsamref18_Pending_S : List (Nat × Sum) := [(75, flotsamref08_Field_sm)]
noncomputable def flotsamref18_Pending_fl : List (Nat × Func) := []
noncomputable def flotsamref18_Pending_es : List AE := [⟨8, 133, 0, 0, flotsamref18_Pending_L0⟩]
theorem flotsamref18_Pending_den0 : (fun x => denStep TEv (look1 flotsamref18_Pending_S) (look1 flotsamref18_Pending_fl) (annOf flotsamref18_Pending_es) 8 133 Go.Proofs.Tryd.f133.ntmps 0 (cat (bodyOf Go.Proofs.Tryd.f133) [true, true, false, true, false, false]) flotsamref18_Pending_L0 x) = flotsamref18_Pending_s0 := by kernel_rfl
theorem flotsamref18_Pending_den : (fun x => denFun TEv (look1 flotsamref18_Pending_S) (look1 flotsamref18_Pending_fl) (annOf flotsamref18_Pending_es) 8 133 Go.Proofs.Tryd.f133 flotsamref18_Pending_sm.a flotsamref18_Pending_sm.r x) = flotsamref18_Pending_sm.F := by kernel_rfl
theorem flotsamref18_Pending_ok0 : AEok Go.Proofs.Tryd.prog TEv (look1 flotsamref18_Pending_S) (look1 flotsamref18_Pending_fl) (annOf flotsamref18_Pending_es) ⟨8, 133, 0, 0, flotsamref18_Pending_L0⟩ := aeok_of 9223372036854775808 Go.Proofs.Tryd.func133 (by kernel_rfl) flotsamref18_Pending_den0 (by kernel_rfl)
theorem flotsamref18_Pending_sem : SemOf Go.Proofs.Tryd.prog 133 flotsamref18_Pending_sm :=
  semMk teOk (sl := flotsamref18_Pending_S) (all_cons flotsamref08_Field_sem all_nil) (fl := flotsamref18_Pending_fl) (all_nil) (es := flotsamref18_Pending_es) Go.Proofs.Tryd.func133 (by kernel_rfl) rfl (all_cons flotsamref18_Pending_ok0 (all_nil)) rfl flotsamref18_Pending_den

/-! ### flotsam/flotsamref18.Begin -/
def flotsamref18_Begin_s0r (v2 : List ((List Val) × Int × (Int × Int × Val) × Int × Val × (List Int) × Unit)) (v9 : Int) (c0 : Int × Int × Int × Val) (c16 : Heap) (c32 : Bool × Unit) (c48_0 : Int) (c48_1 : Unit) (c48_2 : Int × Int × Int × Bool × Unit) (r96 : List Int) : Option (SRes (.cons (.sl (.cons (.sl cVal) (.cons cI (.cons (.cons cI (.cons cI cVal)) (.cons cI (.cons cVal (.cons (.arr 4 cI) .nil))))))) (.cons cI (.cons (.cons cI (.cons cI (.cons cI cVal))) (.cons cHeap (.cons (.cons .bool .nil) (.cons cI (.cons .nil (.cons (.cons cI (.cons cI (.cons cI (.cons .bool .nil)))) (.cons (.sl cI) .nil))))))))) (.cons (.sl (.cons (.sl cVal) (.cons cI (.cons (.cons cI (.cons cI cVal)) (.cons cI (.cons cVal (.cons (.arr 4 cI) .nil))))))) (.cons (.cons cI (.cons cI (.cons cI cVal))) (.cons cHeap (.cons (.cons .bool .nil) (.cons cI (.cons .nil (.cons (.cons cI (.cons cI (.cons cI (.cons .bool .nil)))) (.cons (.sl cI) .nil)))))))) .nil) :=
  bif decide (v9 < (v2.length : Int)) then
    bif decide ((r96.length + 1) * 8 ≤ 140737488355328) then
      some (.next (v2, wi64 (v9 + 1), c0, c16, c32, c48_0, c48_1, c48_2, r96 ++ [c0.2.2.2.2.1], ()))
    else none
  else
  some (.fin (.out (v2, c0, c16, c32, c48_0, c48_1, c48_2, r96, ())))
def flotsamref18_Begin_s0 (x : (List ((List Val) × Int × (Int × Int × Val) × Int × Val × (List Int) × Unit)) × Int × (Int × Int × Int × Val) × Heap × (Bool × Unit) × Int × Unit × (Int × Int × Int × Bool × Unit) × (List Int) × Unit) : Option (SRes (.cons (.sl (.cons (.sl cVal) (.cons cI (.cons (.cons cI (.cons cI cVal)) (.cons cI (.cons cVal (.cons (.arr 4 cI) .nil))))))) (.cons cI (.cons (.cons cI (.cons cI (.cons cI cVal))) (.cons cHeap (.cons (.cons .bool .nil) (.cons cI (.cons .nil (.cons (.cons cI (.cons cI (.cons cI (.cons .bool .nil)))) (.cons (.sl cI) .nil))))))))) (.cons (.sl (.cons (.sl cVal) (.cons cI (.cons (.cons cI (.cons cI cVal)) (.cons cI (.cons cVal (.cons (.arr 4 cI) .nil))))))) (.cons (.cons cI (.cons cI (.cons cI cVal))) (.cons cHeap (.cons (.cons .bool .nil) (.cons cI (.cons .nil (.cons (.cons cI (.cons cI (.cons cI (.cons .bool .nil)))) (.cons (.sl cI) .nil)))))))) .nil) := flotsamref18_Begin_s0r x.1 x.2.1 x.2.2.1 x.2.2.2.1 x.2.2.2.2.1 x.2.2.2.2.2.1 x.2.2.2.2.2.2.1 x.2.2.2.2.2.2.2.1 x.2.2.2.2.2.2.2.2.1
def flotsamref18_Begin_l0 (x : (List ((List Val) × Int × (Int × Int × Val) × Int × Val × (List Int) × Unit)) × Int × (Int × Int × Int × Val) × Heap × (Bool × Unit) × Int × Unit × (Int × Int × Int × Bool × Unit) × (List Int) × Unit) : Option (LRes (.cons (.sl (.cons (.sl cVal) (.cons cI (.cons (.cons cI (.cons cI cVal)) (.cons cI (.cons cVal (.cons (.arr 4 cI) .nil))))))) (.cons (.cons cI (.cons cI (.cons cI cVal))) (.cons cHeap (.cons (.cons .bool .nil) (.cons cI (.cons .nil (.cons (.cons cI (.cons cI (.cons cI (.cons .bool .nil)))) (.cons (.sl cI) .nil)))))))) .nil) := iterL (h := (.cons (.sl (.cons (.sl cVal) (.cons cI (.cons (.cons cI (.cons cI cVal)) (.cons cI (.cons cVal (.cons (.arr 4 cI) .nil))))))) (.cons cI (.cons (.cons cI (.cons cI (.cons cI cVal))) (.cons cHeap (.cons (.cons .bool .nil) (.cons cI (.cons .nil (.cons (.cons cI (.cons cI (.cons cI (.cons .bool .nil)))) (.cons (.sl cI) .nil)))))))))) (o := (.cons (.sl (.cons (.sl cVal) (.cons cI (.cons (.cons cI (.cons cI cVal)) (.cons cI (.cons cVal (.cons (.arr 4 cI) .nil))))))) (.cons (.cons cI (.cons cI (.cons cI cVal))) (.cons cHeap (.cons (.cons .bool .nil) (.cons cI (.cons .nil (.cons (.cons cI (.cons cI (.cons cI (.cons .bool .nil)))) (.cons (.sl cI) .nil))))))))) (r := .nil) flotsamref18_Begin_s0 9223372036854775808 x
def flotsamref18_Begin_r (a0 : Int × Int × Int × Val) (a1 : Heap) (a2 : List ((List Val) × Int × (Int × Int × Val) × Int × Val × (List Int) × Unit)) : Option (Heap × (Grey × (List Grey) × (List Val) × Int × Int × Int × Bool × Unit) × Unit) :=
  (flotsamref18_Begin_l0 (a2, 0, a0, a1, (false, ()), 0, (), (0, 0, 0, false, ()), [], ())).bind fun s1 => match s1 with
  | .out s1 =>
    (flotsamref18_Held (s1.1, ())).bind fun y2 =>
    (flotsamref18_Pending (s1.2.2.1, s1.1, ())).bind fun y3 =>
    bif decide ((y2.1.length + y3.1.length) * 16 ≤ 140737488355328) then
      (flotsamref17_New (s1.2.1.2.2.2.1, s1.2.2.2.2.2.2.2.1, y2.1 ++ y3.1, ())).bind fun y4 =>
      bif decide (s1.2.2.1.1.length * 8 ≤ 140737488355328) then
        bif decide (s1.2.2.1.2.1.length * 24 ≤ 140737488355328) then
          some ((s1.2.2.1.1, s1.2.2.1.2.1, !s1.2.2.1.2.2.1, ()), ((y4.1.1.1, y4.1.1.2.1, y4.1.1.2.2), y4.1.2.1, y4.1.2.2.1, y4.1.2.2.2), ())
        else none
      else none
    else none
  | .ret s1 =>
    none
def flotsamref18_Begin (x : (Int × Int × Int × Val) × Heap × (List ((List Val) × Int × (Int × Int × Val) × Int × Val × (List Int) × Unit)) × Unit) : Option (Heap × (Grey × (List Grey) × (List Val) × Int × Int × Int × Bool × Unit) × Unit) := flotsamref18_Begin_r x.1 x.2.1 x.2.2.1
noncomputable def flotsamref18_Begin_sm : Sum := ⟨(.cons (.cons cI (.cons cI (.cons cI cVal))) (.cons cHeap (.cons (.sl (.cons (.sl cVal) (.cons cI (.cons (.cons cI (.cons cI cVal)) (.cons cI (.cons cVal (.cons (.arr 4 cI) .nil))))))) .nil))), (.cons (.cons (.own (.int .u64)) (.cons (.own cSpan) (.cons (.d .bool) .nil))) (.cons (.cons (.cons (.d cI) (.cons (.own cI) (.d .nil))) (.cons (.own cGrey) (.cons (.own cVal) (.d (.cons cI (.cons cI (.cons cI (.cons .bool .nil)))))))) .nil)), flotsamref18_Begin⟩
noncomputable def flotsamref18_Begin_L0 : LoopSum := { hc := ⟨[], [2, 3, 4, 6, 7, 8, 9], [(.tmp 8, cI)], [], [0, 16, 32, 48], [], 96⟩, h := ⟨[(2, (.d (.sl (.cons (.sl cVal) (.cons cI (.cons (.cons cI (.cons cI cVal)) (.cons cI (.cons cVal (.cons (.arr 4 cI) .nil))))))))), (3, (.pvar 0 [])), (4, (.pvar 16 [])), (6, (.pvar 32 [])), (7, (.pvar 48 [])), (8, (.row 96)), (9, (.d cI))], [(0, (.d (.cons cI (.cons cI (.cons cI cVal))))), (16, (.d cHeap)), (32, (.cons .nilsl (.cons .nilsl (.d (.cons .bool .nil))))), (48, (.cons (.cons (.d cI) (.cons .nilsl (.d .nil))) (.cons .nilsl (.cons .nilsl (.d (.cons cI (.cons cI (.cons cI (.cons .bool .nil)))))))))], [(96, cI, true)], 97⟩, xid := 0, oc := ⟨[], [2, 3, 4, 6, 7, 8], [(.tmp 8, cI)], [], [0, 16, 32, 48], [], 96⟩, o := ⟨[(2, (.d (.sl (.cons (.sl cVal) (.cons cI (.cons (.cons cI (.cons cI cVal)) (.cons cI (.cons cVal (.cons (.arr 4 cI) .nil))))))))), (3, (.pvar 0 [])), (4, (.pvar 16 [])), (6, (.pvar 32 [])), (7, (.pvar 48 [])), (8, (.row 96))], [(0, (.d (.cons cI (.cons cI (.cons cI cVal))))), (16, (.d cHeap)), (32, (.cons .nilsl (.cons .nilsl (.d (.cons .bool .nil))))), (48, (.cons (.cons (.d cI) (.cons .nilsl (.d .nil))) (.cons .nilsl (.cons .nilsl (.d (.cons cI (.cons cI (.cons cI (.cons .bool .nil)))))))))], [(96, cI, true)], 97⟩, rc := ⟨[], [], [], [], [96], [], 96⟩, r := ⟨[], [], [], 96⟩, F := flotsamref18_Begin_l0 }
noncomputable def flotsamref18_Begin_S : List (Nat × Sum) := [(131, flotsamref17_New_sm), (132, flotsamref18_Held_sm), (133, flotsamref18_Pending_sm)]
noncomputable def flotsamref18_Begin_fl : List (Nat × Func) := []
noncomputable def flotsamref18_Begin_es : List AE := [⟨8, 63, 0, 0, flotsamref18_Begin_L0⟩]
theorem flotsamref18_Begin_den0 : (fun x => denStep TEv (look1 flotsamref18_Begin_S) (look1 flotsamref18_Begin_fl) (annOf flotsamref18_Begin_es) 8 63 Go.Proofs.Tryd.f63.ntmps 0 (cat (bodyOf Go.Proofs.Tryd.f63) [true, true, false, true, false, false]) flotsamref18_Begin_L0 x) = flotsamref18_Begin_s0 := by kernel_rfl
theorem flotsamref18_Begin_den : (fun x => denFun TEv (look1 flotsamref18_Begin_S) (look1 flotsamref18_Begin_fl) (annOf flotsamref18_Begin_es) 8 63 Go.Proofs.Tryd.f63 flotsamref18_Begin_sm.a flotsamref18_Begin_sm.r x) = flotsamref18_Begin_sm.F := by kernel_rfl
theorem flotsamref18_Begin_ok0 : AEok Go.Proofs.Tryd.prog TEv (look1 flotsamref18_Begin_S) (look1 flotsamref18_Begin_fl) (annOf flotsamref18_Begin_es) ⟨8, 63, 0, 0, flotsamref18_Begin_L0⟩ := aeok_of 9223372036854775808 Go.Proofs.Tryd.func63 (by kernel_rfl) flotsamref18_Begin_den0 (by kernel_rfl)
theorem flotsamref18_Begin_sem : SemOf Go.Proofs.Tryd.prog 63 flotsamref18_Begin_sm :=
  semMk teOk (sl := flotsamref18_Begin_S) (all_cons flotsamref17_New_sem (all_cons flotsamref18_Held_sem (all_cons flotsamref18_Pending_sem all_nil))) (fl := flotsamref18_Begin_fl) (all_nil) (es := flotsamref18_Begin_es) Go.Proofs.Tryd.func63 (by kernel_rfl) rfl (all_cons flotsamref18_Begin_ok0 (all_nil)) rfl flotsamref18_Begin_den

/-! ### flotsam/flotsamref17.Same -/
def flotsamref17_Same_s0r (v5 : Int) (c0 : Grey × (List Grey) × (List Val) × Int × Int × Int × Bool × Unit) (c16 : Grey × (List Grey) × (List Val) × Int × Int × Int × Bool × Unit) : Option (SRes (.cons cI (.cons (.cons cGrey (.cons (.sl cGrey) (.cons (.sl cVal) (.cons cI (.cons cI (.cons cI (.cons .bool .nil))))))) (.cons (.cons cGrey (.cons (.sl cGrey) (.cons (.sl cVal) (.cons cI (.cons cI (.cons cI (.cons .bool .nil))))))) .nil))) .nil (.cons .bool .nil)) :=
  bif decide (v5 < (c0.2.1.length : Int)) then
    bif decide (0 ≤ v5) then
      bif decide (v5 < (c0.2.1.length : Int)) then
        bif decide (0 ≤ v5) then
          bif decide (v5 < (c16.2.1.length : Int)) then
            (flotsamref13_Same (c0.2.1.getD v5.toNat (0, [], ()), c16.2.1.getD v5.toNat (0, [], ()), ())).bind fun y3 =>
            bif !y3.1 then
              some (.fin (.ret (false, ())))
            else
            some (.next (wi64 (v5 + 1), c0, c16, ()))
          else none
        else none
      else none
    else none
  else
  some (.fin (.out ()))
def flotsamref17_Same_s0 (x : Int × (Grey × (List Grey) × (List Val) × Int × Int × Int × Bool × Unit) × (Grey × (List Grey) × (List Val) × Int × Int × Int × Bool × Unit) × Unit) : Option (SRes (.cons cI (.cons (.cons cGrey (.cons (.sl cGrey) (.cons (.sl cVal) (.cons cI (.cons cI (.cons cI (.cons .bool .nil))))))) (.cons (.cons cGrey (.cons (.sl cGrey) (.cons (.sl cVal) (.cons cI (.cons cI (.cons cI (.cons .bool .nil))))))) .nil))) .nil (.cons .bool .nil)) := flotsamref17_Same_s0r x.1 x.2.1 x.2.2.1
def flotsamref17_Same_l0 (x : Int × (Grey × (List Grey) × (List Val) × Int × Int × Int × Bool × Unit) × (Grey × (List Grey) × (List Val) × Int × Int × Int × Bool × Unit) × Unit) : Option (LRes .nil (.cons .bool .nil)) := iterL (h := (.cons cI (.cons (.cons cGrey (.cons (.sl cGrey) (.cons (.sl cVal) (.cons cI (.cons cI (.cons cI (.cons .bool .nil))))))) (.cons (.cons cGrey (.cons (.sl cGrey) (.cons (.sl cVal) (.cons cI (.cons cI (.cons cI (.cons .bool .nil))))))) .nil)))) (o := .nil) (r := (.cons .bool .nil)) flotsamref17_Same_s0 9223372036854775808 x
def flotsamref17_Same_r (a0 : Grey × (List Grey) × (List Val) × Int × Int × Int × Bool × Unit) (a1 : Grey × (List Grey) × (List Val) × Int × Int × Int × Bool × Unit) : Option (Bool × Unit) :=
  bif a0.2.2.2.1 != a1.2.2.2.1 then
    some (false, ())
  else
  bif a0.2.2.2.2.1 != a1.2.2.2.2.1 then
    some (false, ())
  else
  bif a0.2.2.2.2.2.1 != a1.2.2.2.2.2.1 then
    some (false, ())
  else
  bif !(a0.2.2.2.2.2.2.1 == a1.2.2.2.2.2.2.1) then
    some (false, ())
  else
  (flotsamref13_Same (a0.1, a1.1, ())).bind fun y1 =>
  bif !y1.1 then
    some (false, ())
  else
  (flotsamref01_Same (a0.2.2.1, a1.2.2.1, ())).bind fun y2 =>
  bif !y2.1 then
    some (false, ())
  else
  bif (a0.2.1.length : Int) != (a1.2.1.length : Int) then
    some (false, ())
  else
  (flotsamref17_Same_l0 (0, a0, a1, ())).bind fun s4 => match s4 with
  | .out s4 =>
    some (true, ())
  | .ret s4 =>
    some (s4.1, ())
def flotsamref17_Same (x : (Grey × (List Grey) × (List Val) × Int × Int × Int × Bool × Unit) × (Grey × (List Grey) × (List Val) × Int × Int × Int × Bool × Unit) × Unit) : Option (Bool × Unit) := flotsamref17_Same_r x.1 x.2.1
noncomputable def flotsamref17_Same_sm : Sum := ⟨(.cons (.cons cGrey (.cons (.sl cGrey) (.cons (.sl cVal) (.cons cI (.cons cI (.cons cI (.cons .bool .nil))))))) (.cons (.cons cGrey (.cons (.sl cGrey) (.cons (.sl cVal) (.cons cI (.cons cI (.cons cI (.cons .bool .nil))))))) .nil)), (.cons (.d .bool) .nil), flotsamref17_Same⟩
noncomputable def flotsamref17_Same_L0 : LoopSum := { hc := ⟨[], [2, 3, 5], [], [], [0, 16], [], 880⟩, h := ⟨[(2, (.pvar 0 [])), (3, (.pvar 16 [])), (5, (.d cI))], [(0, (.d (.cons cGrey (.cons (.sl cGrey) (.cons (.sl cVal) (.cons cI (.cons cI (.cons cI (.cons .bool .nil))))))))), (16, (.d (.cons cGrey (.cons (.sl cGrey) (.cons (.sl cVal) (.cons cI (.cons cI (.cons cI (.cons .bool .nil)))))))))], [], 880⟩, xid := 0, oc := ⟨[], [], [], [], [], [], 880⟩, o := ⟨[], [], [], 880⟩, rc := ⟨[], [4], [], [], [], [], 880⟩, r := ⟨[(4, (.d .bool))], [], [], 880⟩, F := flotsamref17_Same_l0 }
noncomputable def flotsamref17_Same_S : List (Nat × Sum) := [(32, flotsamref13_Same_sm), (121, flotsamref01_Same_sm)]
noncomputable def flotsamref17_Same_fl : List (Nat × Func) := []
noncomputable def flotsamref17_Same_es : List AE := [⟨8, 64, 0, 0, flotsamref17_Same_L0⟩]
theorem flotsamref17_Same_den0 : (fun x => denStep TEv (look1 flotsamref17_Same_S) (look1 flotsamref17_Same_fl) (annOf flotsamref17_Same_es) 8 64 Go.Proofs.Tryd.f64.ntmps 0 (cat (bodyOf Go.Proofs.Tryd.f64) [true, true, false, true, false, false]) flotsamref17_Same_L0 x) = flotsamref17_Same_s0 := by kernel_rfl
theorem flotsamref17_Same_den : (fun x => denFun TEv (look1 flotsamref17_Same_S) (look1 flotsamref17_Same_fl) (annOf flotsamref17_Same_es) 8 64 Go.Proofs.Tryd.f64 flotsamref17_Same_sm.a flotsamref17_Same_sm.r x) = flotsamref17_Same_sm.F := by kernel_rfl
theorem flotsamref17_Same_ok0 : AEok Go.Proofs.Tryd.prog TEv (look1 flotsamref17_Same_S) (look1 flotsamref17_Same_fl) (annOf flotsamref17_Same_es) ⟨8, 64, 0, 0, flotsamref17_Same_L0⟩ := aeok_of 9223372036854775808 Go.Proofs.Tryd.func64 (by kernel_rfl) flotsamref17_Same_den0 (by kernel_rfl)
theorem flotsamref17_Same_sem : SemOf Go.Proofs.Tryd.prog 64 flotsamref17_Same_sm :=
  semMk teOk (sl := flotsamref17_Same_S) (all_cons flotsamref13_Same_sem (all_cons flotsamref01_Same_sem all_nil)) (fl := flotsamref17_Same_fl) (all_nil) (es := flotsamref17_Same_es) Go.Proofs.Tryd.func64 (by kernel_rfl) rfl (all_cons flotsamref17_Same_ok0 (all_nil)) rfl flotsamref17_Same_den
end Go.Proofs.YtdfhopakojmjkaaDoor.Den
