/- What functions come to. Printed by a program of this session. -/
import Derived.Test.YtdfhopakojmjkaaDoorDenFs2
namespace Go.Proofs.YtdfhopakojmjkaaDoor.Den
open Go
set_option maxRecDepth 100000
set_option linter.unusedVariables false
/-! ### flotsam/flotsamref18.Copied -/
def flotsamref18_Copied_s0r (v0 : List ((List Val) × Int × (Int × Int × Val) × Int × Val × (List Int) × Unit)) (v4 : Int) (r48 : List ((List Val) × Int × (Int × Int × Val) × Int × Val × (List Int) × Unit)) : Option (SRes (.cons (.sl (.cons (.sl cVal) (.cons cI (.cons (.cons cI (.cons cI cVal)) (.cons cI (.cons cVal (.cons (.arr 4 cI) .nil))))))) (.cons cI (.cons (.sl (.cons (.sl cVal) (.cons cI (.cons (.cons cI (.cons cI cVal)) (.cons cI (.cons cVal (.cons (.arr 4 cI) .nil))))))) .nil))) (.cons (.sl (.cons (.sl cVal) (.cons cI (.cons (.cons cI (.cons cI cVal)) (.cons cI (.cons cVal (.cons (.arr 4 cI) .nil))))))) .nil) .nil) :=
  bif decide (v4 < (v0.length : Int)) then
    bif decide (0 ≤ v4) then
      bif decide (v4 < (v0.length : Int)) then
        bif decide (0 ≤ v4) then
          bif decide (v4 < (v0.length : Int)) then
            bif decide ((0 + (v0.getD v4.toNat ([], 0, (0, 0, 0, 0, ()), 0, (0, 0, ()), List.replicate 4 0, ())).1.length) * 16 ≤ 140737488355328) then
              bif decide ((r48.length + 1) * 120 ≤ 140737488355328) then
                some (.next (v0, wi64 (v4 + 1), r48 ++ [((v0.getD v4.toNat ([], 0, (0, 0, 0, 0, ()), 0, (0, 0, ()), List.replicate 4 0, ())).1, (v0.getD v4.toNat ([], 0, (0, 0, 0, 0, ()), 0, (0, 0, ()), List.replicate 4 0, ())).2)], ()))
              else none
            else none
          else none
        else none
      else none
    else none
  else
  some (.fin (.out (r48, ())))
def flotsamref18_Copied_s0 (x : (List ((List Val) × Int × (Int × Int × Val) × Int × Val × (List Int) × Unit)) × Int × (List ((List Val) × Int × (Int × Int × Val) × Int × Val × (List Int) × Unit)) × Unit) : Option (SRes (.cons (.sl (.cons (.sl cVal) (.cons cI (.cons (.cons cI (.cons cI cVal)) (.cons cI (.cons cVal (.cons (.arr 4 cI) .nil))))))) (.cons cI (.cons (.sl (.cons (.sl cVal) (.cons cI (.cons (.cons cI (.cons cI cVal)) (.cons cI (.cons cVal (.cons (.arr 4 cI) .nil))))))) .nil))) (.cons (.sl (.cons (.sl cVal) (.cons cI (.cons (.cons cI (.cons cI cVal)) (.cons cI (.cons cVal (.cons (.arr 4 cI) .nil))))))) .nil) .nil) := flotsamref18_Copied_s0r x.1 x.2.1 x.2.2.1
def flotsamref18_Copied_l0 (x : (List ((List Val) × Int × (Int × Int × Val) × Int × Val × (List Int) × Unit)) × Int × (List ((List Val) × Int × (Int × Int × Val) × Int × Val × (List Int) × Unit)) × Unit) : Option (LRes (.cons (.sl (.cons (.sl cVal) (.cons cI (.cons (.cons cI (.cons cI cVal)) (.cons cI (.cons cVal (.cons (.arr 4 cI) .nil))))))) .nil) .nil) := iterL (h := (.cons (.sl (.cons (.sl cVal) (.cons cI (.cons (.cons cI (.cons cI cVal)) (.cons cI (.cons cVal (.cons (.arr 4 cI) .nil))))))) (.cons cI (.cons (.sl (.cons (.sl cVal) (.cons cI (.cons (.cons cI (.cons cI cVal)) (.cons cI (.cons cVal (.cons (.arr 4 cI) .nil))))))) .nil)))) (o := (.cons (.sl (.cons (.sl cVal) (.cons cI (.cons (.cons cI (.cons cI cVal)) (.cons cI (.cons cVal (.cons (.arr 4 cI) .nil))))))) .nil)) (r := .nil) flotsamref18_Copied_s0 9223372036854775808 x
def flotsamref18_Copied_r (a0 : List ((List Val) × Int × (Int × Int × Val) × Int × Val × (List Int) × Unit)) : Option ((List ((List Val) × Int × (Int × Int × Val) × Int × Val × (List Int) × Unit)) × Unit) :=
  (flotsamref18_Copied_l0 (a0, 0, [], ())).bind fun s1 => match s1 with
  | .out s1 =>
    some (s1.1, ())
  | .ret s1 =>
    none
def flotsamref18_Copied (x : (List ((List Val) × Int × (Int × Int × Val) × Int × Val × (List Int) × Unit)) × Unit) : Option ((List ((List Val) × Int × (Int × Int × Val) × Int × Val × (List Int) × Unit)) × Unit) := flotsamref18_Copied_r x.1
noncomputable def flotsamref18_Copied_sm : Sum := ⟨(.cons (.sl (.cons (.sl cVal) (.cons cI (.cons (.cons cI (.cons cI cVal)) (.cons cI (.cons cVal (.cons (.arr 4 cI) .nil))))))) .nil), (.cons (.own (.cons (.sl cVal) (.cons cI (.cons (.cons cI (.cons cI cVal)) (.cons cI (.cons cVal (.cons (.arr 4 cI) .nil))))))) .nil), flotsamref18_Copied⟩
noncomputable def flotsamref18_Copied_L0 : LoopSum := { hc := ⟨[], [0, 3, 4], [(.tmp 3, (.cons (.sl cVal) (.cons cI (.cons (.cons cI (.cons cI cVal)) (.cons cI (.cons cVal (.cons (.arr 4 cI) .nil)))))))], [], [], [], 48⟩, h := ⟨[(0, (.d (.sl (.cons (.sl cVal) (.cons cI (.cons (.cons cI (.cons cI cVal)) (.cons cI (.cons cVal (.cons (.arr 4 cI) .nil))))))))), (3, (.row 48)), (4, (.d cI))], [], [(48, (.cons (.sl cVal) (.cons cI (.cons (.cons cI (.cons cI cVal)) (.cons cI (.cons cVal (.cons (.arr 4 cI) .nil)))))), true)], 49⟩, xid := 0, oc := ⟨[], [3], [(.tmp 3, (.cons (.sl cVal) (.cons cI (.cons (.cons cI (.cons cI cVal)) (.cons cI (.cons cVal (.cons (.arr 4 cI) .nil)))))))], [], [], [], 48⟩, o := ⟨[(3, (.row 48))], [], [(48, (.cons (.sl cVal) (.cons cI (.cons (.cons cI (.cons cI cVal)) (.cons cI (.cons cVal (.cons (.arr 4 cI) .nil)))))), true)], 49⟩, rc := ⟨[], [], [], [], [48], [], 48⟩, r := ⟨[], [], [], 48⟩, F := flotsamref18_Copied_l0 }
noncomputable def flotsamref18_Copied_S : List (Nat × Sum) := []
noncomputable def flotsamref18_Copied_fl : List (Nat × Func) := []
noncomputable def flotsamref18_Copied_es : List AE := [⟨8, 66, 0, 0, flotsamref18_Copied_L0⟩]
theorem flotsamref18_Copied_den0 : (fun x => denStep TEv (look1 flotsamref18_Copied_S) (look1 flotsamref18_Copied_fl) (annOf flotsamref18_Copied_es) 8 66 Go.Proofs.Tryd.f66.ntmps 0 (cat (bodyOf Go.Proofs.Tryd.f66) [true, true, false, true, false, false]) flotsamref18_Copied_L0 x) = flotsamref18_Copied_s0 := by kernel_rfl
theorem flotsamref18_Copied_den : (fun x => denFun TEv (look1 flotsamref18_Copied_S) (look1 flotsamref18_Copied_fl) (annOf flotsamref18_Copied_es) 8 66 Go.Proofs.Tryd.f66 flotsamref18_Copied_sm.a flotsamref18_Copied_sm.r x) = flotsamref18_Copied_sm.F := by kernel_rfl
theorem flotsamref18_Copied_ok0 : AEok Go.Proofs.Tryd.prog TEv (look1 flotsamref18_Copied_S) (look1 flotsamref18_Copied_fl) (annOf flotsamref18_Copied_es) ⟨8, 66, 0, 0, flotsamref18_Copied_L0⟩ := aeok_of 9223372036854775808 Go.Proofs.Tryd.func66 (by kernel_rfl) flotsamref18_Copied_den0 (by kernel_rfl)
theorem flotsamref18_Copied_sem : SemOf Go.Proofs.Tryd.prog 66 flotsamref18_Copied_sm :=
  semMk teOk (sl := flotsamref18_Copied_S) (all_nil) (fl := flotsamref18_Copied_fl) (all_nil) (es := flotsamref18_Copied_es) Go.Proofs.Tryd.func66 (by kernel_rfl) rfl (all_cons flotsamref18_Copied_ok0 (all_nil)) rfl flotsamref18_Copied_den

/-! ### flotsam/flotsamref18.Same -/
def flotsamref18_Same_r (a0 : (List Val) × Int × (Int × Int × Val) × Int × Val × (List Int) × Unit) (a1 : (List Val) × Int × (Int × Int × Val) × Int × Val × (List Int) × Unit) : Option (Bool × Unit) :=
  (flotsamref01_Same (a0.1, a1.1, ())).bind fun y1 =>
  bif y1.1 then
    bif a0.2.1 == a1.2.1 then
      bif (a0.2.2.1.1 == a1.2.2.1.1) && ((a0.2.2.1.2.1 == a1.2.2.1.2.1) && ((a0.2.2.1.2.2.1 == a1.2.2.1.2.2.1) && ((a0.2.2.1.2.2.2.1 == a1.2.2.1.2.2.2.1) && true))) then
        bif a0.2.2.2.1 == a1.2.2.2.1 then
          bif (a0.2.2.2.2.1.1 == a1.2.2.2.2.1.1) && ((a0.2.2.2.2.1.2.1 == a1.2.2.2.2.1.2.1) && true) then
            some ((List.zip a0.2.2.2.2.2.1 a1.2.2.2.2.2.1).all fun p => p.1 == p.2, ())
          else
          some (false, ())
        else
        some (false, ())
      else
      some (false, ())
    else
    some (false, ())
  else
  some (false, ())
def flotsamref18_Same (x : ((List Val) × Int × (Int × Int × Val) × Int × Val × (List Int) × Unit) × ((List Val) × Int × (Int × Int × Val) × Int × Val × (List Int) × Unit) × Unit) : Option (Bool × Unit) := flotsamref18_Same_r x.1 x.2.1
noncomputable def flotsamref18_Same_sm : Sum := ⟨(.cons (.cons (.sl cVal) (.cons cI (.cons (.cons cI (.cons cI cVal)) (.cons cI (.cons cVal (.cons (.arr 4 cI) .nil)))))) (.cons (.cons (.sl cVal) (.cons cI (.cons (.cons cI (.cons cI cVal)) (.cons cI (.cons cVal (.cons (.arr 4 cI) .nil)))))) .nil)), (.cons (.d .bool) .nil), flotsamref18_Same⟩
noncomputable def flotsamref18_Same_S : List (Nat × Sum) := [(121, flotsamref01_Same_sm)]
noncomputable def flotsamref18_Same_fl : List (Nat × Func) := []
noncomputable def flotsamref18_Same_es : List AE := []
theorem flotsamref18_Same_den : (fun x => denFun TEv (look1 flotsamref18_Same_S) (look1 flotsamref18_Same_fl) (annOf flotsamref18_Same_es) 8 134 Go.Proofs.Tryd.f134 flotsamref18_Same_sm.a flotsamref18_Same_sm.r x) = flotsamref18_Same_sm.F := by kernel_rfl
theorem flotsamref18_Same_sem : SemOf Go.Proofs.Tryd.prog 134 flotsamref18_Same_sm :=
  semMk teOk (sl := flotsamref18_Same_S) (all_cons flotsamref01_Same_sem all_nil) (fl := flotsamref18_Same_fl) (all_nil) (es := flotsamref18_Same_es) Go.Proofs.Tryd.func134 (by kernel_rfl) rfl (all_nil) rfl flotsamref18_Same_den

/-! ### flotsam/flotsamref18.Sames -/
def flotsamref18_Sames_s0r (v0 : List ((List Val) × Int × (Int × Int × Val) × Int × Val × (List Int) × Unit)) (v1 : List ((List Val) × Int × (Int × Int × Val) × Int × Val × (List Int) × Unit)) (v5 : Int) : Option (SRes (.cons (.sl (.cons (.sl cVal) (.cons cI (.cons (.cons cI (.cons cI cVal)) (.cons cI (.cons cVal (.cons (.arr 4 cI) .nil))))))) (.cons (.sl (.cons (.sl cVal) (.cons cI (.cons (.cons cI (.cons cI cVal)) (.cons cI (.cons cVal (.cons (.arr 4 cI) .nil))))))) (.cons cI .nil))) .nil (.cons .bool .nil)) :=
  bif decide (v5 < (v0.length : Int)) then
    bif decide (0 ≤ v5) then
      bif decide (v5 < (v0.length : Int)) then
        bif decide (0 ≤ v5) then
          bif decide (v5 < (v1.length : Int)) then
            (flotsamref18_Same (v0.getD v5.toNat ([], 0, (0, 0, 0, 0, ()), 0, (0, 0, ()), List.replicate 4 0, ()), v1.getD v5.toNat ([], 0, (0, 0, 0, 0, ()), 0, (0, 0, ()), List.replicate 4 0, ()), ())).bind fun y1 =>
            bif !y1.1 then
              some (.fin (.ret (false, ())))
            else
            some (.next (v0, v1, wi64 (v5 + 1), ()))
          else none
        else none
      else none
    else none
  else
  some (.fin (.out ()))
def flotsamref18_Sames_s0 (x : (List ((List Val) × Int × (Int × Int × Val) × Int × Val × (List Int) × Unit)) × (List ((List Val) × Int × (Int × Int × Val) × Int × Val × (List Int) × Unit)) × Int × Unit) : Option (SRes (.cons (.sl (.cons (.sl cVal) (.cons cI (.cons (.cons cI (.cons cI cVal)) (.cons cI (.cons cVal (.cons (.arr 4 cI) .nil))))))) (.cons (.sl (.cons (.sl cVal) (.cons cI (.cons (.cons cI (.cons cI cVal)) (.cons cI (.cons cVal (.cons (.arr 4 cI) .nil))))))) (.cons cI .nil))) .nil (.cons .bool .nil)) := flotsamref18_Sames_s0r x.1 x.2.1 x.2.2.1
def flotsamref18_Sames_l0 (x : (List ((List Val) × Int × (Int × Int × Val) × Int × Val × (List Int) × Unit)) × (List ((List Val) × Int × (Int × Int × Val) × Int × Val × (List Int) × Unit)) × Int × Unit) : Option (LRes .nil (.cons .bool .nil)) := iterL (h := (.cons (.sl (.cons (.sl cVal) (.cons cI (.cons (.cons cI (.cons cI cVal)) (.cons cI (.cons cVal (.cons (.arr 4 cI) .nil))))))) (.cons (.sl (.cons (.sl cVal) (.cons cI (.cons (.cons cI (.cons cI cVal)) (.cons cI (.cons cVal (.cons (.arr 4 cI) .nil))))))) (.cons cI .nil)))) (o := .nil) (r := (.cons .bool .nil)) flotsamref18_Sames_s0 9223372036854775808 x
def flotsamref18_Sames_r (a0 : List ((List Val) × Int × (Int × Int × Val) × Int × Val × (List Int) × Unit)) (a1 : List ((List Val) × Int × (Int × Int × Val) × Int × Val × (List Int) × Unit)) : Option (Bool × Unit) :=
  bif (a0.length : Int) != (a1.length : Int) then
    some (false, ())
  else
  (flotsamref18_Sames_l0 (a0, a1, 0, ())).bind fun s2 => match s2 with
  | .out s2 =>
    some (true, ())
  | .ret s2 =>
    some (s2.1, ())
def flotsamref18_Sames (x : (List ((List Val) × Int × (Int × Int × Val) × Int × Val × (List Int) × Unit)) × (List ((List Val) × Int × (Int × Int × Val) × Int × Val × (List Int) × Unit)) × Unit) : Option (Bool × Unit) := flotsamref18_Sames_r x.1 x.2.1
noncomputable def flotsamref18_Sames_sm : Sum := ⟨(.cons (.sl (.cons (.sl cVal) (.cons cI (.cons (.cons cI (.cons cI cVal)) (.cons cI (.cons cVal (.cons (.arr 4 cI) .nil))))))) (.cons (.sl (.cons (.sl cVal) (.cons cI (.cons (.cons cI (.cons cI cVal)) (.cons cI (.cons cVal (.cons (.arr 4 cI) .nil))))))) .nil)), (.cons (.d .bool) .nil), flotsamref18_Sames⟩
noncomputable def flotsamref18_Sames_L0 : LoopSum := { hc := ⟨[], [0, 1, 5], [], [], [], [], 112⟩, h := ⟨[(0, (.d (.sl (.cons (.sl cVal) (.cons cI (.cons (.cons cI (.cons cI cVal)) (.cons cI (.cons cVal (.cons (.arr 4 cI) .nil))))))))), (1, (.d (.sl (.cons (.sl cVal) (.cons cI (.cons (.cons cI (.cons cI cVal)) (.cons cI (.cons cVal (.cons (.arr 4 cI) .nil))))))))), (5, (.d cI))], [], [], 112⟩, xid := 0, oc := ⟨[], [], [], [], [], [], 112⟩, o := ⟨[], [], [], 112⟩, rc := ⟨[], [4], [], [], [], [], 112⟩, r := ⟨[(4, (.d .bool))], [], [], 112⟩, F := flotsamref18_Sames_l0 }
noncomputable def flotsamref18_Sames_S : List (Nat × Sum) := [(134, flotsamref18_Same_sm)]
noncomputable def flotsamref18_Sames_fl : List (Nat × Func) := []
noncomputable def flotsamref18_Sames_es : List AE := [⟨8, 67, 0, 0, flotsamref18_Sames_L0⟩]
theorem flotsamref18_Sames_den0 : (fun x => denStep TEv (look1 flotsamref18_Sames_S) (look1 flotsamref18_Sames_fl) (annOf flotsamref18_Sames_es) 8 67 Go.Proofs.Tryd.f67.ntmps 0 (cat (bodyOf Go.Proofs.Tryd.f67) [true, true, false, true, false, false]) flotsamref18_Sames_L0 x) = flotsamref18_Sames_s0 := by kernel_rfl
theorem flotsamref18_Sames_den : (fun x => denFun TEv (look1 flotsamref18_Sames_S) (look1 flotsamref18_Sames_fl) (annOf flotsamref18_Sames_es) 8 67 Go.Proofs.Tryd.f67 flotsamref18_Sames_sm.a flotsamref18_Sames_sm.r x) = flotsamref18_Sames_sm.F := by kernel_rfl
theorem flotsamref18_Sames_ok0 : AEok Go.Proofs.Tryd.prog TEv (look1 flotsamref18_Sames_S) (look1 flotsamref18_Sames_fl) (annOf flotsamref18_Sames_es) ⟨8, 67, 0, 0, flotsamref18_Sames_L0⟩ := aeok_of 9223372036854775808 Go.Proofs.Tryd.func67 (by kernel_rfl) flotsamref18_Sames_den0 (by kernel_rfl)
theorem flotsamref18_Sames_sem : SemOf Go.Proofs.Tryd.prog 67 flotsamref18_Sames_sm :=
  semMk teOk (sl := flotsamref18_Sames_S) (all_cons flotsamref18_Same_sem all_nil) (fl := flotsamref18_Sames_fl) (all_nil) (es := flotsamref18_Sames_es) Go.Proofs.Tryd.func67 (by kernel_rfl) rfl (all_cons flotsamref18_Sames_ok0 (all_nil)) rfl flotsamref18_Sames_den

/-! ### flotsam/flotsamlaw18.SnapTwice -/
def flotsamlaw18_SnapTwice_s0r (v1 : List ((List Val) × Int × (Int × Int × Val) × Int × Val × (List Int) × Unit)) (v11 : Int) (c0 : Heap) (c176 : Int × Int × Int × Val) (c320 : Bool × Unit) (c336_0 : Int) (c336_1 : Unit) (c336_2 : Int × Int × Int × Bool × Unit) (c496 : Bool × Unit) (r256 : List Int) (r257 : List Span) (r258 : List Int) (r259 : List Grey) (r260 : List Val) (r432 : List Int) (r433 : List Span) (r640 : List ((List Val) × Int × (Int × Int × Val) × Int × Val × (List Int) × Unit)) : Option (SRes (.cons (.sl (.cons (.sl cVal) (.cons cI (.cons (.cons cI (.cons cI cVal)) (.cons cI (.cons cVal (.cons (.arr 4 cI) .nil))))))) (.cons cI (.cons cHeap (.cons (.cons cI (.cons cI (.cons cI cVal))) (.cons (.cons .bool .nil) (.cons cI (.cons .nil (.cons (.cons cI (.cons cI (.cons cI (.cons .bool .nil)))) (.cons (.cons .bool .nil) (.cons (.sl (.int .u64)) (.cons (.sl cSpan) (.cons (.sl cI) (.cons (.sl cGrey) (.cons (.sl cVal) (.cons (.sl (.int .u64)) (.cons (.sl cSpan) (.cons (.sl (.cons (.sl cVal) (.cons cI (.cons (.cons cI (.cons cI cVal)) (.cons cI (.cons cVal (.cons (.arr 4 cI) .nil))))))) .nil))))))))))))))))) (.cons cHeap (.cons (.cons cI (.cons cI (.cons cI cVal))) (.cons (.cons .bool .nil) (.cons cI (.cons .nil (.cons (.cons cI (.cons cI (.cons cI (.cons .bool .nil)))) (.cons (.cons .bool .nil) (.cons (.sl (.int .u64)) (.cons (.sl cSpan) (.cons (.sl cI) (.cons (.sl cGrey) (.cons (.sl cVal) (.cons (.sl (.int .u64)) (.cons (.sl cSpan) (.cons (.sl (.cons (.sl cVal) (.cons cI (.cons (.cons cI (.cons cI cVal)) (.cons cI (.cons cVal (.cons (.arr 4 cI) .nil))))))) .nil))))))))))))))) .nil) :=
  bif decide (v11 ≥ 0) then
    bif decide (0 ≤ v11) then
      bif decide (v11 < (v1.length : Int)) then
        bif decide ((r640.length + 1) * 120 ≤ 140737488355328) then
          some (.next (v1, wi64 (v11 - 1), c0, c176, c320, c336_0, c336_1, c336_2, c496, r256, r257, r258, r259, r260, r432, r433, r640 ++ [v1.getD v11.toNat ([], 0, (0, 0, 0, 0, ()), 0, (0, 0, ()), List.replicate 4 0, ())], ()))
        else none
      else none
    else none
  else
  some (.fin (.out (c0, c176, c320, c336_0, c336_1, c336_2, c496, r256, r257, r258, r259, r260, r432, r433, r640, ())))
def flotsamlaw18_SnapTwice_s0 (x : (List ((List Val) × Int × (Int × Int × Val) × Int × Val × (List Int) × Unit)) × Int × Heap × (Int × Int × Int × Val) × (Bool × Unit) × Int × Unit × (Int × Int × Int × Bool × Unit) × (Bool × Unit) × (List Int) × (List Span) × (List Int) × (List Grey) × (List Val) × (List Int) × (List Span) × (List ((List Val) × Int × (Int × Int × Val) × Int × Val × (List Int) × Unit)) × Unit) : Option (SRes (.cons (.sl (.cons (.sl cVal) (.cons cI (.cons (.cons cI (.cons cI cVal)) (.cons cI (.cons cVal (.cons (.arr 4 cI) .nil))))))) (.cons cI (.cons cHeap (.cons (.cons cI (.cons cI (.cons cI cVal))) (.cons (.cons .bool .nil) (.cons cI (.cons .nil (.cons (.cons cI (.cons cI (.cons cI (.cons .bool .nil)))) (.cons (.cons .bool .nil) (.cons (.sl (.int .u64)) (.cons (.sl cSpan) (.cons (.sl cI) (.cons (.sl cGrey) (.cons (.sl cVal) (.cons (.sl (.int .u64)) (.cons (.sl cSpan) (.cons (.sl (.cons (.sl cVal) (.cons cI (.cons (.cons cI (.cons cI cVal)) (.cons cI (.cons cVal (.cons (.arr 4 cI) .nil))))))) .nil))))))))))))))))) (.cons cHeap (.cons (.cons cI (.cons cI (.cons cI cVal))) (.cons (.cons .bool .nil) (.cons cI (.cons .nil (.cons (.cons cI (.cons cI (.cons cI (.cons .bool .nil)))) (.cons (.cons .bool .nil) (.cons (.sl (.int .u64)) (.cons (.sl cSpan) (.cons (.sl cI) (.cons (.sl cGrey) (.cons (.sl cVal) (.cons (.sl (.int .u64)) (.cons (.sl cSpan) (.cons (.sl (.cons (.sl cVal) (.cons cI (.cons (.cons cI (.cons cI cVal)) (.cons cI (.cons cVal (.cons (.arr 4 cI) .nil))))))) .nil))))))))))))))) .nil) := flotsamlaw18_SnapTwice_s0r x.1 x.2.1 x.2.2.1 x.2.2.2.1 x.2.2.2.2.1 x.2.2.2.2.2.1 x.2.2.2.2.2.2.1 x.2.2.2.2.2.2.2.1 x.2.2.2.2.2.2.2.2.1 x.2.2.2.2.2.2.2.2.2.1 x.2.2.2.2.2.2.2.2.2.2.1 x.2.2.2.2.2.2.2.2.2.2.2.1 x.2.2.2.2.2.2.2.2.2.2.2.2.1 x.2.2.2.2.2.2.2.2.2.2.2.2.2.1 x.2.2.2.2.2.2.2.2.2.2.2.2.2.2.1 x.2.2.2.2.2.2.2.2.2.2.2.2.2.2.2.1 x.2.2.2.2.2.2.2.2.2.2.2.2.2.2.2.2.1
def flotsamlaw18_SnapTwice_l0 (x : (List ((List Val) × Int × (Int × Int × Val) × Int × Val × (List Int) × Unit)) × Int × Heap × (Int × Int × Int × Val) × (Bool × Unit) × Int × Unit × (Int × Int × Int × Bool × Unit) × (Bool × Unit) × (List Int) × (List Span) × (List Int) × (List Grey) × (List Val) × (List Int) × (List Span) × (List ((List Val) × Int × (Int × Int × Val) × Int × Val × (List Int) × Unit)) × Unit) : Option (LRes (.cons cHeap (.cons (.cons cI (.cons cI (.cons cI cVal))) (.cons (.cons .bool .nil) (.cons cI (.cons .nil (.cons (.cons cI (.cons cI (.cons cI (.cons .bool .nil)))) (.cons (.cons .bool .nil) (.cons (.sl (.int .u64)) (.cons (.sl cSpan) (.cons (.sl cI) (.cons (.sl cGrey) (.cons (.sl cVal) (.cons (.sl (.int .u64)) (.cons (.sl cSpan) (.cons (.sl (.cons (.sl cVal) (.cons cI (.cons (.cons cI (.cons cI cVal)) (.cons cI (.cons cVal (.cons (.arr 4 cI) .nil))))))) .nil))))))))))))))) .nil) := iterL (h := (.cons (.sl (.cons (.sl cVal) (.cons cI (.cons (.cons cI (.cons cI cVal)) (.cons cI (.cons cVal (.cons (.arr 4 cI) .nil))))))) (.cons cI (.cons cHeap (.cons (.cons cI (.cons cI (.cons cI cVal))) (.cons (.cons .bool .nil) (.cons cI (.cons .nil (.cons (.cons cI (.cons cI (.cons cI (.cons .bool .nil)))) (.cons (.cons .bool .nil) (.cons (.sl (.int .u64)) (.cons (.sl cSpan) (.cons (.sl cI) (.cons (.sl cGrey) (.cons (.sl cVal) (.cons (.sl (.int .u64)) (.cons (.sl cSpan) (.cons (.sl (.cons (.sl cVal) (.cons cI (.cons (.cons cI (.cons cI cVal)) (.cons cI (.cons cVal (.cons (.arr 4 cI) .nil))))))) .nil)))))))))))))))))) (o := (.cons cHeap (.cons (.cons cI (.cons cI (.cons cI cVal))) (.cons (.cons .bool .nil) (.cons cI (.cons .nil (.cons (.cons cI (.cons cI (.cons cI (.cons .bool .nil)))) (.cons (.cons .bool .nil) (.cons (.sl (.int .u64)) (.cons (.sl cSpan) (.cons (.sl cI) (.cons (.sl cGrey) (.cons (.sl cVal) (.cons (.sl (.int .u64)) (.cons (.sl cSpan) (.cons (.sl (.cons (.sl cVal) (.cons cI (.cons (.cons cI (.cons cI cVal)) (.cons cI (.cons cVal (.cons (.arr 4 cI) .nil))))))) .nil)))))))))))))))) (r := .nil) flotsamlaw18_SnapTwice_s0 9223372036854775808 x
def flotsamlaw18_SnapTwice_r (a0 : Heap) (a1 : List ((List Val) × Int × (Int × Int × Val) × Int × Val × (List Int) × Unit)) : Option (Bool × Unit) :=
  (flotsamlaw18_awake ()).bind fun y1 =>
  bif !y1.1 then
    (flotsamlaw18_awake ()).bind fun y2 =>
    some (y2.1, ())
  else
  (flotsamlaw18_fits (a0, a1, ())).bind fun y3 =>
  bif !y3.1 then
    (flotsamlaw18_awake ()).bind fun y4 =>
    some (y4.1, ())
  else
  (snap_Begin ((0, 0, 0, 3, 2, ()), a0, a1, ())).bind fun y5 =>
  (snap_Begin ((0, 0, 0, 3, 2, ()), (y5.1.1, y5.1.2.1, y5.1.2.2), a1, ())).bind fun y6 =>
  (flotsamlaw18_SnapTwice_l0 (a1, wi64 ((a1.length : Int) - 1), a0, (0, 0, 0, 3, 2, ()), y5.1.2.2, y5.2.1.1.1, y5.2.1.1.2.2, y5.2.1.2.2.2, y6.1.2.2, y5.1.1, y5.1.2.1, y5.2.1.1.2.1, y5.2.1.2.1, y5.2.1.2.2.1, y6.1.1, y6.1.2.1, [], ())).bind fun s7 => match s7 with
  | .out s7 =>
    (snap_Begin (s7.2.1, s7.1, s7.2.2.2.2.2.2.2.2.2.2.2.2.2.2.1, ())).bind fun y8 =>
    (flotsamref07_Same ((s7.2.2.2.2.2.2.2.2.2.2.2.2.1, s7.2.2.2.2.2.2.2.2.2.2.2.2.2.1, s7.2.2.2.2.2.2.1), s7.1, ())).bind fun y9 =>
    bif y9.1 then
      (flotsamref07_Same ((s7.2.2.2.2.2.2.2.1, s7.2.2.2.2.2.2.2.2.1, s7.2.2.1), (y8.1.1, y8.1.2.1, y8.1.2.2), ())).bind fun y10 =>
      bif y10.1 then
        bif (s7.2.2.2.2.2.2.2.2.2.2.2.1.length : Int) == (y8.2.1.2.2.1.length : Int) then
          (flotsamref15_From ((s7.2.2.2.2.2.2.2.1, s7.2.2.2.2.2.2.2.2.1, s7.2.2.1), s7.2.2.2.2.2.2.2.2.2.2.2.1, ())).bind fun y11 =>
          (flotsamref15_From ((y8.1.1, y8.1.2.1, y8.1.2.2), y8.2.1.2.2.1, ())).bind fun y12 =>
          (flotsamref08_Ints (y11.1, y12.1, ())).bind fun y13 =>
          some (y13.1, ())
        else
        some (false, ())
      else
      some (false, ())
    else
    some (false, ())
  | .ret s7 =>
    none
def flotsamlaw18_SnapTwice (x : Heap × (List ((List Val) × Int × (Int × Int × Val) × Int × Val × (List Int) × Unit)) × Unit) : Option (Bool × Unit) := flotsamlaw18_SnapTwice_r x.1 x.2.1
noncomputable def flotsamlaw18_SnapTwice_sm : Sum := ⟨(.cons cHeap (.cons (.sl (.cons (.sl cVal) (.cons cI (.cons (.cons cI (.cons cI cVal)) (.cons cI (.cons cVal (.cons (.arr 4 cI) .nil))))))) .nil)), (.cons (.d .bool) .nil), flotsamlaw18_SnapTwice⟩
noncomputable def flotsamlaw18_SnapTwice_L0 : LoopSum := { hc := ⟨[], [1, 2, 5, 6, 7, 8, 10, 11], [(.tmp 10, (.cons (.sl cVal) (.cons cI (.cons (.cons cI (.cons cI cVal)) (.cons cI (.cons cVal (.cons (.arr 4 cI) .nil)))))))], [], [0, 176, 320, 336, 496], [256, 257, 258, 259, 260, 432, 433], 640⟩, h := ⟨[(1, (.d (.sl (.cons (.sl cVal) (.cons cI (.cons (.cons cI (.cons cI cVal)) (.cons cI (.cons cVal (.cons (.arr 4 cI) .nil))))))))), (2, (.pvar 0 [])), (5, (.pvar 176 [])), (6, (.pvar 320 [])), (7, (.pvar 336 [])), (8, (.pvar 496 [])), (10, (.row 640)), (11, (.d cI))], [(0, (.d cHeap)), (176, (.d (.cons cI (.cons cI (.cons cI cVal))))), (320, (.cons (.row 256) (.cons (.row 257) (.d (.cons .bool .nil))))), (336, (.cons (.cons (.d cI) (.cons (.row 258) (.d .nil))) (.cons (.row 259) (.cons (.row 260) (.d (.cons cI (.cons cI (.cons cI (.cons .bool .nil))))))))), (496, (.cons (.row 432) (.cons (.row 433) (.d (.cons .bool .nil)))))], [(256, (.int .u64), false), (257, cSpan, false), (258, cI, true), (259, cGrey, true), (260, cVal, true), (432, (.int .u64), true), (433, cSpan, true), (640, (.cons (.sl cVal) (.cons cI (.cons (.cons cI (.cons cI cVal)) (.cons cI (.cons cVal (.cons (.arr 4 cI) .nil)))))), true)], 641⟩, xid := 0, oc := ⟨[], [2, 5, 6, 7, 8, 10], [(.tmp 10, (.cons (.sl cVal) (.cons cI (.cons (.cons cI (.cons cI cVal)) (.cons cI (.cons cVal (.cons (.arr 4 cI) .nil)))))))], [], [0, 176, 320, 336, 496], [256, 257, 258, 259, 260, 432, 433], 640⟩, o := ⟨[(2, (.pvar 0 [])), (5, (.pvar 176 [])), (6, (.pvar 320 [])), (7, (.pvar 336 [])), (8, (.pvar 496 [])), (10, (.row 640))], [(0, (.d cHeap)), (176, (.d (.cons cI (.cons cI (.cons cI cVal))))), (320, (.cons (.row 256) (.cons (.row 257) (.d (.cons .bool .nil))))), (336, (.cons (.cons (.d cI) (.cons (.row 258) (.d .nil))) (.cons (.row 259) (.cons (.row 260) (.d (.cons cI (.cons cI (.cons cI (.cons .bool .nil))))))))), (496, (.cons (.row 432) (.cons (.row 433) (.d (.cons .bool .nil)))))], [(256, (.int .u64), false), (257, cSpan, false), (258, cI, true), (259, cGrey, true), (260, cVal, true), (432, (.int .u64), true), (433, cSpan, true), (640, (.cons (.sl cVal) (.cons cI (.cons (.cons cI (.cons cI cVal)) (.cons cI (.cons cVal (.cons (.arr 4 cI) .nil)))))), true)], 641⟩, rc := ⟨[], [], [], [], [640], [], 640⟩, r := ⟨[], [], [], 640⟩, F := flotsamlaw18_SnapTwice_l0 }
noncomputable def flotsamlaw18_SnapTwice_S : List (Nat × Sum) := [(26, flotsamref08_Ints_sm), (31, flotsamref07_Same_sm), (60, flotsamlaw18_awake_sm), (61, flotsamlaw18_fits_sm), (62, snap_Begin_sm), (65, flotsamref15_From_sm)]
noncomputable def flotsamlaw18_SnapTwice_fl : List (Nat × Func) := []
noncomputable def flotsamlaw18_SnapTwice_es : List AE := [⟨8, 19, 0, 0, flotsamlaw18_SnapTwice_L0⟩]
theorem flotsamlaw18_SnapTwice_den0 : (fun x => denStep TEv (look1 flotsamlaw18_SnapTwice_S) (look1 flotsamlaw18_SnapTwice_fl) (annOf flotsamlaw18_SnapTwice_es) 8 19 Go.Proofs.Tryd.f19.ntmps 0 (cat (bodyOf Go.Proofs.Tryd.f19) [true, true, true, true, true, true, false, true, false, false]) flotsamlaw18_SnapTwice_L0 x) = flotsamlaw18_SnapTwice_s0 := by kernel_rfl
theorem flotsamlaw18_SnapTwice_den : (fun x => denFun TEv (look1 flotsamlaw18_SnapTwice_S) (look1 flotsamlaw18_SnapTwice_fl) (annOf flotsamlaw18_SnapTwice_es) 8 19 Go.Proofs.Tryd.f19 flotsamlaw18_SnapTwice_sm.a flotsamlaw18_SnapTwice_sm.r x) = flotsamlaw18_SnapTwice_sm.F := by kernel_rfl
theorem flotsamlaw18_SnapTwice_ok0 : AEok Go.Proofs.Tryd.prog TEv (look1 flotsamlaw18_SnapTwice_S) (look1 flotsamlaw18_SnapTwice_fl) (annOf flotsamlaw18_SnapTwice_es) ⟨8, 19, 0, 0, flotsamlaw18_SnapTwice_L0⟩ := aeok_of 9223372036854775808 Go.Proofs.Tryd.func19 (by kernel_rfl) flotsamlaw18_SnapTwice_den0 (by kernel_rfl)
theorem flotsamlaw18_SnapTwice_sem : SemOf Go.Proofs.Tryd.prog 19 flotsamlaw18_SnapTwice_sm :=
  semMk teOk (sl := flotsamlaw18_SnapTwice_S) (all_cons flotsamref08_Ints_sem (all_cons flotsamref07_Same_sem (all_cons flotsamlaw18_awake_sem (all_cons flotsamlaw18_fits_sem (all_cons snap_Begin_sem (all_cons flotsamref15_From_sem all_nil)))))) (fl := flotsamlaw18_SnapTwice_fl) (all_nil) (es := flotsamlaw18_SnapTwice_es) Go.Proofs.Tryd.func19 (by kernel_rfl) rfl (all_cons flotsamlaw18_SnapTwice_ok0 (all_nil)) rfl flotsamlaw18_SnapTwice_den
end Go.Proofs.YtdfhopakojmjkaaDoor.Den
