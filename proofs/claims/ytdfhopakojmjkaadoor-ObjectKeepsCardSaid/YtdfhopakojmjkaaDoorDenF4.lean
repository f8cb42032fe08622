/- What functions come to. Printed by a program of this session. -/
import Derived.Test.YtdfhopakojmjkaaDoorDenF3
namespace Go.Proofs.YtdfhopakojmjkaaDoor.Den
open Go
set_option maxRecDepth 100000
set_option linter.unusedVariables false
/-! ### flotsam/flotsamref08.with -/
def flotsamref08_with_s0r (v1 : Int) (v2 : Int) (v8 : Int) (c0 : Heap) (c16 : Bool × Unit) (c80 : Bool × Unit) (r176 : List Span) (r240 : List Int) : Option (SRes (.cons cI (.cons (.int .u64) (.cons cI (.cons cHeap (.cons (.cons .bool .nil) (.cons (.cons .bool .nil) (.cons (.sl cSpan) (.cons (.sl (.int .u64)) .nil)))))))) (.cons (.cons .bool .nil) (.cons (.cons .bool .nil) (.cons (.sl cSpan) (.cons (.sl (.int .u64)) .nil)))) .nil) :=
  bif decide (v8 < (c0.1.length : Int)) then
    bif decide (0 ≤ v8) then
      bif decide (v8 < (c0.1.length : Int)) then
        bif v8 == v1 then
          bif decide ((r240.length + 1) * 8 ≤ 140737488355328) then
            some (.next (v1, v2, wi64 (v8 + 1), c0, c16, c80, r176, r240 ++ [v2], ()))
          else none
        else
        bif decide ((r240.length + 1) * 8 ≤ 140737488355328) then
          some (.next (v1, v2, wi64 (v8 + 1), c0, c16, c80, r176, r240 ++ [c0.1.getD v8.toNat 0], ()))
        else none
      else none
    else none
  else
  some (.fin (.out (c16, c80, r176, r240, ())))
def flotsamref08_with_s0 (x : Int × Int × Int × Heap × (Bool × Unit) × (Bool × Unit) × (List Span) × (List Int) × Unit) : Option (SRes (.cons cI (.cons (.int .u64) (.cons cI (.cons cHeap (.cons (.cons .bool .nil) (.cons (.cons .bool .nil) (.cons (.sl cSpan) (.cons (.sl (.int .u64)) .nil)))))))) (.cons (.cons .bool .nil) (.cons (.cons .bool .nil) (.cons (.sl cSpan) (.cons (.sl (.int .u64)) .nil)))) .nil) := flotsamref08_with_s0r x.1 x.2.1 x.2.2.1 x.2.2.2.1 x.2.2.2.2.1 x.2.2.2.2.2.1 x.2.2.2.2.2.2.1 x.2.2.2.2.2.2.2.1
def flotsamref08_with_l0 (x : Int × Int × Int × Heap × (Bool × Unit) × (Bool × Unit) × (List Span) × (List Int) × Unit) : Option (LRes (.cons (.cons .bool .nil) (.cons (.cons .bool .nil) (.cons (.sl cSpan) (.cons (.sl (.int .u64)) .nil)))) .nil) := iterL (h := (.cons cI (.cons (.int .u64) (.cons cI (.cons cHeap (.cons (.cons .bool .nil) (.cons (.cons .bool .nil) (.cons (.sl cSpan) (.cons (.sl (.int .u64)) .nil))))))))) (o := (.cons (.cons .bool .nil) (.cons (.cons .bool .nil) (.cons (.sl cSpan) (.cons (.sl (.int .u64)) .nil))))) (r := .nil) flotsamref08_with_s0 9223372036854775808 x
def flotsamref08_with_r (a0 : Heap) (a1 : Int) (a2 : Int) : Option (Heap × Unit) :=
  bif decide (a0.2.1.length * 24 ≤ 140737488355328) then
    (flotsamref08_with_l0 (a1, a2, 0, a0, (false, ()), (a0.2.2.1, ()), a0.2.1, [], ())).bind fun s1 => match s1 with
    | .out s1 =>
      some ((s1.2.2.2.1, s1.2.2.1, s1.2.1), ())
    | .ret s1 =>
      none
  else none
def flotsamref08_with (x : Heap × Int × Int × Unit) : Option (Heap × Unit) := flotsamref08_with_r x.1 x.2.1 x.2.2.1
noncomputable def flotsamref08_with_sm : Sum := ⟨(.cons cHeap (.cons cI (.cons (.int .u64) .nil))), (.cons (.cons (.own (.int .u64)) (.cons (.own cSpan) (.d (.cons .bool .nil)))) .nil), flotsamref08_with⟩
noncomputable def flotsamref08_with_L0 : LoopSum := { hc := ⟨[], [1, 2, 3, 6, 7, 8], [(.key 80 [.fld 0], (.int .u64))], [], [0, 16, 80], [176], 240⟩, h := ⟨[(1, (.d cI)), (2, (.d (.int .u64))), (3, (.pvar 0 [])), (6, (.pvar 16 [])), (7, (.pvar 80 [])), (8, (.d cI))], [(0, (.d cHeap)), (16, (.cons .nilsl (.cons .nilsl (.d (.cons .bool .nil))))), (80, (.cons (.row 240) (.cons (.row 176) (.d (.cons .bool .nil)))))], [(176, cSpan, true), (240, (.int .u64), true)], 241⟩, xid := 0, oc := ⟨[], [6, 7], [(.ptr 7 [.fld 0], (.int .u64))], [], [16, 80], [176], 240⟩, o := ⟨[(6, (.pvar 16 [])), (7, (.pvar 80 []))], [(16, (.cons .nilsl (.cons .nilsl (.d (.cons .bool .nil))))), (80, (.cons (.row 240) (.cons (.row 176) (.d (.cons .bool .nil)))))], [(176, cSpan, true), (240, (.int .u64), true)], 241⟩, rc := ⟨[], [], [], [], [240], [], 240⟩, r := ⟨[], [], [], 240⟩, F := flotsamref08_with_l0 }
noncomputable def flotsamref08_with_S : List (Nat × Sum) := []
noncomputable def flotsamref08_with_fl : List (Nat × Func) := []
noncomputable def flotsamref08_with_es : List AE := [⟨8, 87, 0, 0, flotsamref08_with_L0⟩]
theorem flotsamref08_with_den0 : (fun x => denStep TEv (look1 flotsamref08_with_S) (look1 flotsamref08_with_fl) (annOf flotsamref08_with_es) 8 87 Go.Proofs.Tryd.f87.ntmps 0 (cat (bodyOf Go.Proofs.Tryd.f87) [true, true, true, false, true, false, false]) flotsamref08_with_L0 x) = flotsamref08_with_s0 := by kernel_rfl
theorem flotsamref08_with_den : (fun x => denFun TEv (look1 flotsamref08_with_S) (look1 flotsamref08_with_fl) (annOf flotsamref08_with_es) 8 87 Go.Proofs.Tryd.f87 flotsamref08_with_sm.a flotsamref08_with_sm.r x) = flotsamref08_with_sm.F := by kernel_rfl
theorem flotsamref08_with_ok0 : AEok Go.Proofs.Tryd.prog TEv (look1 flotsamref08_with_S) (look1 flotsamref08_with_fl) (annOf flotsamref08_with_es) ⟨8, 87, 0, 0, flotsamref08_with_L0⟩ := aeok_of 9223372036854775808 Go.Proofs.Tryd.func87 (by kernel_rfl) flotsamref08_with_den0 (by kernel_rfl)
theorem flotsamref08_with_sem : SemOf Go.Proofs.Tryd.prog 87 flotsamref08_with_sm :=
  semMk teOk (sl := flotsamref08_with_S) (all_nil) (fl := flotsamref08_with_fl) (all_nil) (es := flotsamref08_with_es) Go.Proofs.Tryd.func87 (by kernel_rfl) rfl (rng_none (by kernel_rfl) (by kernel_rfl)) (all_cons flotsamref08_with_ok0 (all_nil)) rfl flotsamref08_with_den

/-! ### flotsam/flotsamref08.Paint -/
def flotsamref08_Paint_r (a0 : Heap) (a1 : Int) : Option (Heap × Bool × Unit) :=
  (flotsamref08_Get (a0, a1, ())).bind fun y1 =>
  bif !y1.2.1 then
    some (a0, false, ())
  else
  (flotsamref02_Put ((y1.1.1, a0.2.2.1, y1.1.2.2), ())).bind fun y2 =>
  (flotsamref08_with (a0, a1, y2.1, ())).bind fun y3 =>
  some ((y3.1.1, y3.1.2.1, y3.1.2.2), true, ())
def flotsamref08_Paint (x : Heap × Int × Unit) : Option (Heap × Bool × Unit) := flotsamref08_Paint_r x.1 x.2.1
noncomputable def flotsamref08_Paint_sm : Sum := ⟨(.cons cHeap (.cons cI .nil)), (.cons (.d cHeap) (.cons (.d .bool) .nil)), flotsamref08_Paint⟩
noncomputable def flotsamref08_Paint_S : List (Nat × Sum) := [(72, flotsamref08_Get_sm), (87, flotsamref08_with_sm), (89, flotsamref02_Put_sm)]
noncomputable def flotsamref08_Paint_fl : List (Nat × Func) := []
noncomputable def flotsamref08_Paint_es : List AE := []
theorem flotsamref08_Paint_den : (fun x => denFun TEv (look1 flotsamref08_Paint_S) (look1 flotsamref08_Paint_fl) (annOf flotsamref08_Paint_es) 8 39 Go.Proofs.Tryd.f39 flotsamref08_Paint_sm.a flotsamref08_Paint_sm.r x) = flotsamref08_Paint_sm.F := by kernel_rfl
theorem flotsamref08_Paint_sem : SemOf Go.Proofs.Tryd.prog 39 flotsamref08_Paint_sm :=
  semMk teOk (sl := flotsamref08_Paint_S) (all_cons flotsamref08_Get_sem (all_cons flotsamref08_with_sem (all_cons flotsamref02_Put_sem all_nil))) (fl := flotsamref08_Paint_fl) (all_nil) (es := flotsamref08_Paint_es) Go.Proofs.Tryd.func39 (by kernel_rfl) rfl (rng_none (by kernel_rfl) (by kernel_rfl)) (all_nil) rfl flotsamref08_Paint_den

/-! ### flotsam/flotsamref13.Push -/
def flotsamref13_Push_r (a0 : Grey) (a1 : Int) : Option (Grey × Bool × Unit) :=
  bif decide (a1 < 0) then
    some (a0, false, ())
  else
  bif decide ((a0.2.1.length : Int) ≥ a0.1) then
    some (a0, false, ())
  else
  bif decide ((0 + a0.2.1.length) * 8 ≤ 140737488355328) then
    bif decide ((a0.2.1.length + 1) * 8 ≤ 140737488355328) then
      some ((a0.1, a0.2.1 ++ [a1], ()), true, ())
    else none
  else none
def flotsamref13_Push (x : Grey × Int × Unit) : Option (Grey × Bool × Unit) := flotsamref13_Push_r x.1 x.2.1
noncomputable def flotsamref13_Push_sm : Sum := ⟨(.cons cGrey (.cons cI .nil)), (.cons (.d cGrey) (.cons (.d .bool) .nil)), flotsamref13_Push⟩
noncomputable def flotsamref13_Push_S : List (Nat × Sum) := []
noncomputable def flotsamref13_Push_fl : List (Nat × Func) := []
noncomputable def flotsamref13_Push_es : List AE := []
theorem flotsamref13_Push_den : (fun x => denFun TEv (look1 flotsamref13_Push_S) (look1 flotsamref13_Push_fl) (annOf flotsamref13_Push_es) 8 139 Go.Proofs.Tryd.f139 flotsamref13_Push_sm.a flotsamref13_Push_sm.r x) = flotsamref13_Push_sm.F := by kernel_rfl
theorem flotsamref13_Push_sem : SemOf Go.Proofs.Tryd.prog 139 flotsamref13_Push_sm :=
  semMk teOk (sl := flotsamref13_Push_S) (all_nil) (fl := flotsamref13_Push_fl) (all_nil) (es := flotsamref13_Push_es) Go.Proofs.Tryd.func139 (by kernel_rfl) rfl (rng_none (by kernel_rfl) (by kernel_rfl)) (all_nil) rfl flotsamref13_Push_den

/-! ### flotsam/flotsamref16.Shade -/
def flotsamref16_Shade_r (a0 : Heap) (a1 : Grey) (a2 : Val) : Option (Heap × Grey × Bool × Unit) :=
  (flotsamref08_Get (a0, a2.2.1, ())).bind fun y1 =>
  bif a2.1 != 2 then
    some (a0, a1, false, ())
  else
  bif !y1.2.1 then
    some (a0, a1, false, ())
  else
  (flotsamref08_Black (a0, a2.2.1, ())).bind fun y2 =>
  bif y2.1 then
    some (a0, a1, false, ())
  else
  (flotsamref08_Paint (a0, a2.2.1, ())).bind fun y3 =>
  (flotsamref13_Push (a1, a2.2.1, ())).bind fun y4 =>
  some (y3.1, y4.1, !y4.2.1, ())
def flotsamref16_Shade (x : Heap × Grey × Val × Unit) : Option (Heap × Grey × Bool × Unit) := flotsamref16_Shade_r x.1 x.2.1 x.2.2.1
noncomputable def flotsamref16_Shade_sm : Sum := ⟨(.cons cHeap (.cons cGrey (.cons cVal .nil))), (.cons (.d cHeap) (.cons (.d cGrey) (.cons (.d .bool) .nil))), flotsamref16_Shade⟩
noncomputable def flotsamref16_Shade_S : List (Nat × Sum) := [(27, flotsamref08_Black_sm), (39, flotsamref08_Paint_sm), (72, flotsamref08_Get_sm), (139, flotsamref13_Push_sm)]
noncomputable def flotsamref16_Shade_fl : List (Nat × Func) := []
noncomputable def flotsamref16_Shade_es : List AE := []
theorem flotsamref16_Shade_den : (fun x => denFun TEv (look1 flotsamref16_Shade_S) (look1 flotsamref16_Shade_fl) (annOf flotsamref16_Shade_es) 8 76 Go.Proofs.Tryd.f76 flotsamref16_Shade_sm.a flotsamref16_Shade_sm.r x) = flotsamref16_Shade_sm.F := by kernel_rfl
theorem flotsamref16_Shade_sem : SemOf Go.Proofs.Tryd.prog 76 flotsamref16_Shade_sm :=
  semMk teOk (sl := flotsamref16_Shade_S) (all_cons flotsamref08_Black_sem (all_cons flotsamref08_Paint_sem (all_cons flotsamref08_Get_sem (all_cons flotsamref13_Push_sem all_nil)))) (fl := flotsamref16_Shade_fl) (all_nil) (es := flotsamref16_Shade_es) Go.Proofs.Tryd.func76 (by kernel_rfl) rfl (rng_none (by kernel_rfl) (by kernel_rfl)) (all_nil) rfl flotsamref16_Shade_den

/-! ### flotsam/flotsamref16.All -/
def flotsamref16_All_s0r (v2 : List Val) (v9 : Bool) (v10 : Int) (c0 : Heap) (c16 : Grey) (c32 : Bool × Unit) (c48_0 : Int) (c48_1 : Unit) : Option (SRes (.cons (.sl cVal) (.cons .bool (.cons cI (.cons cHeap (.cons cGrey (.cons (.cons .bool .nil) (.cons cI (.cons .nil .nil)))))))) (.cons .bool (.cons cHeap (.cons cGrey (.cons (.cons .bool .nil) (.cons cI (.cons .nil .nil)))))) .nil) :=
  bif decide (v10 < (v2.length : Int)) then
    bif decide (0 ≤ v10) then
      bif decide (v10 < (v2.length : Int)) then
        (flotsamref16_Shade (c0, c16, v2.getD v10.toNat (0, 0, ()), ())).bind fun y1 =>
        bif v9 then
          some (.next (v2, true, wi64 (v10 + 1), y1.1, y1.2.1, c32, c48_0, c48_1, ()))
        else
        some (.next (v2, y1.2.2.1, wi64 (v10 + 1), y1.1, y1.2.1, c32, c48_0, c48_1, ()))
      else none
    else none
  else
  some (.fin (.out (v9, c0, c16, c32, c48_0, c48_1, ())))
def flotsamref16_All_s0 (x : (List Val) × Bool × Int × Heap × Grey × (Bool × Unit) × Int × Unit × Unit) : Option (SRes (.cons (.sl cVal) (.cons .bool (.cons cI (.cons cHeap (.cons cGrey (.cons (.cons .bool .nil) (.cons cI (.cons .nil .nil)))))))) (.cons .bool (.cons cHeap (.cons cGrey (.cons (.cons .bool .nil) (.cons cI (.cons .nil .nil)))))) .nil) := flotsamref16_All_s0r x.1 x.2.1 x.2.2.1 x.2.2.2.1 x.2.2.2.2.1 x.2.2.2.2.2.1 x.2.2.2.2.2.2.1 x.2.2.2.2.2.2.2.1
def flotsamref16_All_l0 (x : (List Val) × Bool × Int × Heap × Grey × (Bool × Unit) × Int × Unit × Unit) : Option (LRes (.cons .bool (.cons cHeap (.cons cGrey (.cons (.cons .bool .nil) (.cons cI (.cons .nil .nil)))))) .nil) := iterL (h := (.cons (.sl cVal) (.cons .bool (.cons cI (.cons cHeap (.cons cGrey (.cons (.cons .bool .nil) (.cons cI (.cons .nil .nil))))))))) (o := (.cons .bool (.cons cHeap (.cons cGrey (.cons (.cons .bool .nil) (.cons cI (.cons .nil .nil))))))) (r := .nil) flotsamref16_All_s0 9223372036854775808 x
def flotsamref16_All_r (a0 : Heap) (a1 : Grey) (a2 : List Val) : Option (Heap × Grey × Bool × Unit) :=
  (flotsamref16_All_l0 (a2, false, 0, a0, a1, (false, ()), 0, (), ())).bind fun s2 => match s2 with
  | .out s2 =>
    some (s2.2.1, s2.2.2.1, s2.1, ())
  | .ret s2 =>
    none
def flotsamref16_All (x : Heap × Grey × (List Val) × Unit) : Option (Heap × Grey × Bool × Unit) := flotsamref16_All_r x.1 x.2.1 x.2.2.1
noncomputable def flotsamref16_All_sm : Sum := ⟨(.cons cHeap (.cons cGrey (.cons (.sl cVal) .nil))), (.cons (.d cHeap) (.cons (.d cGrey) (.cons (.d .bool) .nil))), flotsamref16_All⟩
noncomputable def flotsamref16_All_L0 : LoopSum := { hc := ⟨[], [2, 3, 4, 6, 7, 9, 10], [], [], [0, 16, 32, 48], [], 112⟩, h := ⟨[(2, (.d (.sl cVal))), (3, (.pvar 0 [])), (4, (.pvar 16 [])), (6, (.pvar 32 [])), (7, (.pvar 48 [])), (9, (.d .bool)), (10, (.d cI))], [(0, (.d cHeap)), (16, (.d cGrey)), (32, (.cons .nilsl (.cons .nilsl (.d (.cons .bool .nil))))), (48, (.cons (.d cI) (.cons .nilsl (.d .nil))))], [], 112⟩, xid := 0, oc := ⟨[], [3, 4, 6, 7, 9], [], [], [0, 16, 32, 48], [], 112⟩, o := ⟨[(3, (.pvar 0 [])), (4, (.pvar 16 [])), (6, (.pvar 32 [])), (7, (.pvar 48 [])), (9, (.d .bool))], [(0, (.d cHeap)), (16, (.d cGrey)), (32, (.cons .nilsl (.cons .nilsl (.d (.cons .bool .nil))))), (48, (.cons (.d cI) (.cons .nilsl (.d .nil))))], [], 112⟩, rc := ⟨[], [], [], [], [112], [], 112⟩, r := ⟨[], [], [], 112⟩, F := flotsamref16_All_l0 }
noncomputable def flotsamref16_All_S : List (Nat × Sum) := [(76, flotsamref16_Shade_sm)]
noncomputable def flotsamref16_All_fl : List (Nat × Func) := []
noncomputable def flotsamref16_All_es : List AE := [⟨8, 30, 0, 0, flotsamref16_All_L0⟩]
theorem flotsamref16_All_den0 : (fun x => denStep TEv (look1 flotsamref16_All_S) (look1 flotsamref16_All_fl) (annOf flotsamref16_All_es) 8 30 Go.Proofs.Tryd.f30.ntmps 0 (cat (bodyOf Go.Proofs.Tryd.f30) [true, true, false, true, false, false]) flotsamref16_All_L0 x) = flotsamref16_All_s0 := by kernel_rfl
theorem flotsamref16_All_den : (fun x => denFun TEv (look1 flotsamref16_All_S) (look1 flotsamref16_All_fl) (annOf flotsamref16_All_es) 8 30 Go.Proofs.Tryd.f30 flotsamref16_All_sm.a flotsamref16_All_sm.r x) = flotsamref16_All_sm.F := by kernel_rfl
theorem flotsamref16_All_ok0 : AEok Go.Proofs.Tryd.prog TEv (look1 flotsamref16_All_S) (look1 flotsamref16_All_fl) (annOf flotsamref16_All_es) ⟨8, 30, 0, 0, flotsamref16_All_L0⟩ := aeok_of 9223372036854775808 Go.Proofs.Tryd.func30 (by kernel_rfl) flotsamref16_All_den0 (by kernel_rfl)
theorem flotsamref16_All_sem : SemOf Go.Proofs.Tryd.prog 30 flotsamref16_All_sm :=
  semMk teOk (sl := flotsamref16_All_S) (all_cons flotsamref16_Shade_sem all_nil) (fl := flotsamref16_All_fl) (all_nil) (es := flotsamref16_All_es) Go.Proofs.Tryd.func30 (by kernel_rfl) rfl (rng_none (by kernel_rfl) (by kernel_rfl)) (all_cons flotsamref16_All_ok0 (all_nil)) rfl flotsamref16_All_den

/-! ### flotsam/flotsamref05.Same -/
def flotsamref05_Same_s0r (v0 : List Int) (v1 : List Int) (v5 : Int) : Option (SRes (.cons (.sl (.int .u64)) (.cons (.sl (.int .u64)) (.cons cI .nil))) .nil (.cons .bool .nil)) :=
  bif decide (v5 < (v0.length : Int)) then
    bif decide (0 ≤ v5) then
      bif decide (v5 < (v0.length : Int)) then
        bif decide (0 ≤ v5) then
          bif decide (v5 < (v1.length : Int)) then
            bif (v0.getD v5.toNat 0) != (v1.getD v5.toNat 0) then
              some (.fin (.ret (false, ())))
            else
            some (.next (v0, v1, wi64 (v5 + 1), ()))
          else none
        else none
      else none
    else none
  else
  some (.fin (.out ()))
def flotsamref05_Same_s0 (x : (List Int) × (List Int) × Int × Unit) : Option (SRes (.cons (.sl (.int .u64)) (.cons (.sl (.int .u64)) (.cons cI .nil))) .nil (.cons .bool .nil)) := flotsamref05_Same_s0r x.1 x.2.1 x.2.2.1
def flotsamref05_Same_l0 (x : (List Int) × (List Int) × Int × Unit) : Option (LRes .nil (.cons .bool .nil)) := iterL (h := (.cons (.sl (.int .u64)) (.cons (.sl (.int .u64)) (.cons cI .nil)))) (o := .nil) (r := (.cons .bool .nil)) flotsamref05_Same_s0 9223372036854775808 x
def flotsamref05_Same_r (a0 : List Int) (a1 : List Int) : Option (Bool × Unit) :=
  bif (a0.length : Int) != (a1.length : Int) then
    some (false, ())
  else
  (flotsamref05_Same_l0 (a0, a1, 0, ())).bind fun s1 => match s1 with
  | .out s1 =>
    some (true, ())
  | .ret s1 =>
    some (s1.1, ())
def flotsamref05_Same (x : (List Int) × (List Int) × Unit) : Option (Bool × Unit) := flotsamref05_Same_r x.1 x.2.1
noncomputable def flotsamref05_Same_sm : Sum := ⟨(.cons (.sl (.int .u64)) (.cons (.sl (.int .u64)) .nil)), (.cons (.d .bool) .nil), flotsamref05_Same⟩
noncomputable def flotsamref05_Same_L0 : LoopSum := { hc := ⟨[], [0, 1, 5], [], [], [], [], 112⟩, h := ⟨[(0, (.d (.sl (.int .u64)))), (1, (.d (.sl (.int .u64)))), (5, (.d cI))], [], [], 112⟩, xid := 0, oc := ⟨[], [], [], [], [], [], 112⟩, o := ⟨[], [], [], 112⟩, rc := ⟨[], [4], [], [], [], [], 112⟩, r := ⟨[(4, (.d .bool))], [], [], 112⟩, F := flotsamref05_Same_l0 }
noncomputable def flotsamref05_Same_S : List (Nat × Sum) := []
noncomputable def flotsamref05_Same_fl : List (Nat × Func) := []
noncomputable def flotsamref05_Same_es : List AE := [⟨8, 77, 0, 0, flotsamref05_Same_L0⟩]
theorem flotsamref05_Same_den0 : (fun x => denStep TEv (look1 flotsamref05_Same_S) (look1 flotsamref05_Same_fl) (annOf flotsamref05_Same_es) 8 77 Go.Proofs.Tryd.f77.ntmps 0 (cat (bodyOf Go.Proofs.Tryd.f77) [true, true, false, true, false, false]) flotsamref05_Same_L0 x) = flotsamref05_Same_s0 := by kernel_rfl
theorem flotsamref05_Same_den : (fun x => denFun TEv (look1 flotsamref05_Same_S) (look1 flotsamref05_Same_fl) (annOf flotsamref05_Same_es) 8 77 Go.Proofs.Tryd.f77 flotsamref05_Same_sm.a flotsamref05_Same_sm.r x) = flotsamref05_Same_sm.F := by kernel_rfl
theorem flotsamref05_Same_ok0 : AEok Go.Proofs.Tryd.prog TEv (look1 flotsamref05_Same_S) (look1 flotsamref05_Same_fl) (annOf flotsamref05_Same_es) ⟨8, 77, 0, 0, flotsamref05_Same_L0⟩ := aeok_of 9223372036854775808 Go.Proofs.Tryd.func77 (by kernel_rfl) flotsamref05_Same_den0 (by kernel_rfl)
theorem flotsamref05_Same_sem : SemOf Go.Proofs.Tryd.prog 77 flotsamref05_Same_sm :=
  semMk teOk (sl := flotsamref05_Same_S) (all_nil) (fl := flotsamref05_Same_fl) (all_nil) (es := flotsamref05_Same_es) Go.Proofs.Tryd.func77 (by kernel_rfl) rfl (rng_none (by kernel_rfl) (by kernel_rfl)) (all_cons flotsamref05_Same_ok0 (all_nil)) rfl flotsamref05_Same_den

/-! ### flotsam/flotsamref07.Same -/
def flotsamref07_Same_s0r (v5 : Int) (c0 : Heap) (c16 : Heap) : Option (SRes (.cons cI (.cons cHeap (.cons cHeap .nil))) .nil (.cons .bool .nil)) :=
  bif decide (v5 < (c0.2.1.length : Int)) then
    bif decide (0 ≤ v5) then
      bif decide (v5 < (c0.2.1.length : Int)) then
        bif decide (0 ≤ v5) then
          bif decide (v5 < (c16.2.1.length : Int)) then
            bif !(((c0.2.1.getD v5.toNat (0, 0, 0, ())).1 == (c16.2.1.getD v5.toNat (0, 0, 0, ())).1) && (((c0.2.1.getD v5.toNat (0, 0, 0, ())).2.1 == (c16.2.1.getD v5.toNat (0, 0, 0, ())).2.1) && (((c0.2.1.getD v5.toNat (0, 0, 0, ())).2.2.1 == (c16.2.1.getD v5.toNat (0, 0, 0, ())).2.2.1) && true))) then
              some (.fin (.ret (false, ())))
            else
            some (.next (wi64 (v5 + 1), c0, c16, ()))
          else none
        else none
      else none
    else none
  else
  some (.fin (.out ()))
def flotsamref07_Same_s0 (x : Int × Heap × Heap × Unit) : Option (SRes (.cons cI (.cons cHeap (.cons cHeap .nil))) .nil (.cons .bool .nil)) := flotsamref07_Same_s0r x.1 x.2.1 x.2.2.1
def flotsamref07_Same_l0 (x : Int × Heap × Heap × Unit) : Option (LRes .nil (.cons .bool .nil)) := iterL (h := (.cons cI (.cons cHeap (.cons cHeap .nil)))) (o := .nil) (r := (.cons .bool .nil)) flotsamref07_Same_s0 9223372036854775808 x
def flotsamref07_Same_r (a0 : Heap) (a1 : Heap) : Option (Bool × Unit) :=
  bif !(a0.2.2.1 == a1.2.2.1) then
    some (false, ())
  else
  bif (a0.2.1.length : Int) != (a1.2.1.length : Int) then
    some (false, ())
  else
  (flotsamref05_Same (a0.1, a1.1, ())).bind fun y1 =>
  bif !y1.1 then
    some (false, ())
  else
  (flotsamref07_Same_l0 (0, a0, a1, ())).bind fun s2 => match s2 with
  | .out s2 =>
    some (true, ())
  | .ret s2 =>
    some (s2.1, ())
def flotsamref07_Same (x : Heap × Heap × Unit) : Option (Bool × Unit) := flotsamref07_Same_r x.1 x.2.1
noncomputable def flotsamref07_Same_sm : Sum := ⟨(.cons cHeap (.cons cHeap .nil)), (.cons (.d .bool) .nil), flotsamref07_Same⟩
noncomputable def flotsamref07_Same_L0 : LoopSum := { hc := ⟨[], [2, 3, 5], [], [], [0, 16], [], 416⟩, h := ⟨[(2, (.pvar 0 [])), (3, (.pvar 16 [])), (5, (.d cI))], [(0, (.d cHeap)), (16, (.d cHeap))], [], 416⟩, xid := 0, oc := ⟨[], [], [], [], [], [], 416⟩, o := ⟨[], [], [], 416⟩, rc := ⟨[], [4], [], [], [], [], 416⟩, r := ⟨[(4, (.d .bool))], [], [], 416⟩, F := flotsamref07_Same_l0 }
noncomputable def flotsamref07_Same_S : List (Nat × Sum) := [(77, flotsamref05_Same_sm)]
noncomputable def flotsamref07_Same_fl : List (Nat × Func) := []
noncomputable def flotsamref07_Same_es : List AE := [⟨8, 31, 0, 0, flotsamref07_Same_L0⟩]
theorem flotsamref07_Same_den0 : (fun x => denStep TEv (look1 flotsamref07_Same_S) (look1 flotsamref07_Same_fl) (annOf flotsamref07_Same_es) 8 31 Go.Proofs.Tryd.f31.ntmps 0 (cat (bodyOf Go.Proofs.Tryd.f31) [true, true, false, true, false, false]) flotsamref07_Same_L0 x) = flotsamref07_Same_s0 := by kernel_rfl
theorem flotsamref07_Same_den : (fun x => denFun TEv (look1 flotsamref07_Same_S) (look1 flotsamref07_Same_fl) (annOf flotsamref07_Same_es) 8 31 Go.Proofs.Tryd.f31 flotsamref07_Same_sm.a flotsamref07_Same_sm.r x) = flotsamref07_Same_sm.F := by kernel_rfl
theorem flotsamref07_Same_ok0 : AEok Go.Proofs.Tryd.prog TEv (look1 flotsamref07_Same_S) (look1 flotsamref07_Same_fl) (annOf flotsamref07_Same_es) ⟨8, 31, 0, 0, flotsamref07_Same_L0⟩ := aeok_of 9223372036854775808 Go.Proofs.Tryd.func31 (by kernel_rfl) flotsamref07_Same_den0 (by kernel_rfl)
theorem flotsamref07_Same_sem : SemOf Go.Proofs.Tryd.prog 31 flotsamref07_Same_sm :=
  semMk teOk (sl := flotsamref07_Same_S) (all_cons flotsamref05_Same_sem all_nil) (fl := flotsamref07_Same_fl) (all_nil) (es := flotsamref07_Same_es) Go.Proofs.Tryd.func31 (by kernel_rfl) rfl (rng_none (by kernel_rfl) (by kernel_rfl)) (all_cons flotsamref07_Same_ok0 (all_nil)) rfl flotsamref07_Same_den

/-! ### flotsam/flotsamlaw16.ShadeKeeps -/
def flotsamlaw16_ShadeKeeps_r (a0 : Heap) (a1 : Grey) (a2 : List Val) : Option (Bool × Unit) :=
  (flotsamlaw16_awake ()).bind fun y1 =>
  bif !y1.1 then
    (flotsamlaw16_awake ()).bind fun y2 =>
    some (y2.1, ())
  else
  (flotsamref07_Form (a0, ())).bind fun y3 =>
  bif !y3.1 then
    (flotsamlaw16_awake ()).bind fun y4 =>
    some (y4.1, ())
  else
  (flotsamref13_Right (a1, ())).bind fun y5 =>
  bif !y5.1 then
    (flotsamlaw16_awake ()).bind fun y6 =>
    some (y6.1, ())
  else
  bif decide ((a2.length : Int) > 100) then
    (flotsamlaw16_awake ()).bind fun y7 =>
    some (y7.1, ())
  else
  bif decide ((0 + a0.1.length) * 8 ≤ 140737488355328) then
    bif decide ((0 + a0.2.1.length) * 24 ≤ 140737488355328) then
      bif decide ((0 + a1.2.1.length) * 8 ≤ 140737488355328) then
        (shade_All ((a0.1, a0.2.1, a0.2.2.1, ()), (a1.1, a1.2.1, ()), a2, ())).bind fun y8 =>
        (flotsamref16_All (a0, a1, a2, ())).bind fun y9 =>
        (flotsamref07_Same ((a0.1, a0.2.1, a0.2.2.1, ()), a0, ())).bind fun y10 =>
        bif y10.1 then
          (flotsamref13_Same ((a1.1, a1.2.1, ()), a1, ())).bind fun y11 =>
          bif y11.1 then
            (flotsamref07_Same (y8.1, y9.1, ())).bind fun y12 =>
            bif y12.1 then
              (flotsamref13_Same (y8.2.1, y9.2.1, ())).bind fun y13 =>
              some (y13.1, ())
            else
            some (false, ())
          else
          some (false, ())
        else
        some (false, ())
      else none
    else none
  else none
def flotsamlaw16_ShadeKeeps (x : Heap × Grey × (List Val) × Unit) : Option (Bool × Unit) := flotsamlaw16_ShadeKeeps_r x.1 x.2.1 x.2.2.1
noncomputable def flotsamlaw16_ShadeKeeps_sm : Sum := ⟨(.cons cHeap (.cons cGrey (.cons (.sl cVal) .nil))), (.cons (.d .bool) .nil), flotsamlaw16_ShadeKeeps⟩
noncomputable def flotsamlaw16_ShadeKeeps_S : List (Nat × Sum) := [(20, flotsamlaw16_awake_sm), (21, flotsamref07_Form_sm), (23, flotsamref13_Right_sm), (24, shade_All_sm), (30, flotsamref16_All_sm), (31, flotsamref07_Same_sm), (32, flotsamref13_Same_sm)]
noncomputable def flotsamlaw16_ShadeKeeps_fl : List (Nat × Func) := []
noncomputable def flotsamlaw16_ShadeKeeps_es : List AE := []
theorem flotsamlaw16_ShadeKeeps_den : (fun x => denFun TEv (look1 flotsamlaw16_ShadeKeeps_S) (look1 flotsamlaw16_ShadeKeeps_fl) (annOf flotsamlaw16_ShadeKeeps_es) 8 4 Go.Proofs.Tryd.f4 flotsamlaw16_ShadeKeeps_sm.a flotsamlaw16_ShadeKeeps_sm.r x) = flotsamlaw16_ShadeKeeps_sm.F := by kernel_rfl
theorem flotsamlaw16_ShadeKeeps_sem : SemOf Go.Proofs.Tryd.prog 4 flotsamlaw16_ShadeKeeps_sm :=
  semMk teOk (sl := flotsamlaw16_ShadeKeeps_S) (all_cons flotsamlaw16_awake_sem (all_cons flotsamref07_Form_sem (all_cons flotsamref13_Right_sem (all_cons shade_All_sem (all_cons flotsamref16_All_sem (all_cons flotsamref07_Same_sem (all_cons flotsamref13_Same_sem all_nil))))))) (fl := flotsamlaw16_ShadeKeeps_fl) (all_nil) (es := flotsamlaw16_ShadeKeeps_es) Go.Proofs.Tryd.func4 (by kernel_rfl) rfl (rng_none (by kernel_rfl) (by kernel_rfl)) (all_nil) rfl flotsamlaw16_ShadeKeeps_den

/-! ### flotsam/flotsamlaw16.ShadeTwice -/
def flotsamlaw16_ShadeTwice_s0r (v2 : List Val) (v12 : Bool) (v14 : Int) (c0 : Heap) (c16 : Grey) (c528 : Heap) (c544 : Grey) (c736 : Heap) (c752 : Grey) (r896 : List Val) : Option (SRes (.cons (.sl cVal) (.cons .bool (.cons cI (.cons cHeap (.cons cGrey (.cons cHeap (.cons cGrey (.cons cHeap (.cons cGrey (.cons (.sl cVal) .nil)))))))))) (.cons .bool (.cons cHeap (.cons cGrey (.cons cHeap (.cons cGrey (.cons cHeap (.cons cGrey (.cons (.sl cVal) .nil)))))))) .nil) :=
  bif decide (v14 ≥ 0) then
    bif decide (0 ≤ v14) then
      bif decide (v14 < (v2.length : Int)) then
        bif decide ((r896.length + 1) * 16 ≤ 140737488355328) then
          some (.next (v2, v12, wi64 (v14 - 1), c0, c16, c528, c544, c736, c752, r896 ++ [v2.getD v14.toNat (0, 0, ())], ()))
        else none
      else none
    else none
  else
  some (.fin (.out (v12, c0, c16, c528, c544, c736, c752, r896, ())))
def flotsamlaw16_ShadeTwice_s0 (x : (List Val) × Bool × Int × Heap × Grey × Heap × Grey × Heap × Grey × (List Val) × Unit) : Option (SRes (.cons (.sl cVal) (.cons .bool (.cons cI (.cons cHeap (.cons cGrey (.cons cHeap (.cons cGrey (.cons cHeap (.cons cGrey (.cons (.sl cVal) .nil)))))))))) (.cons .bool (.cons cHeap (.cons cGrey (.cons cHeap (.cons cGrey (.cons cHeap (.cons cGrey (.cons (.sl cVal) .nil)))))))) .nil) := flotsamlaw16_ShadeTwice_s0r x.1 x.2.1 x.2.2.1 x.2.2.2.1 x.2.2.2.2.1 x.2.2.2.2.2.1 x.2.2.2.2.2.2.1 x.2.2.2.2.2.2.2.1 x.2.2.2.2.2.2.2.2.1 x.2.2.2.2.2.2.2.2.2.1
def flotsamlaw16_ShadeTwice_l0 (x : (List Val) × Bool × Int × Heap × Grey × Heap × Grey × Heap × Grey × (List Val) × Unit) : Option (LRes (.cons .bool (.cons cHeap (.cons cGrey (.cons cHeap (.cons cGrey (.cons cHeap (.cons cGrey (.cons (.sl cVal) .nil)))))))) .nil) := iterL (h := (.cons (.sl cVal) (.cons .bool (.cons cI (.cons cHeap (.cons cGrey (.cons cHeap (.cons cGrey (.cons cHeap (.cons cGrey (.cons (.sl cVal) .nil))))))))))) (o := (.cons .bool (.cons cHeap (.cons cGrey (.cons cHeap (.cons cGrey (.cons cHeap (.cons cGrey (.cons (.sl cVal) .nil))))))))) (r := .nil) flotsamlaw16_ShadeTwice_s0 9223372036854775808 x
def flotsamlaw16_ShadeTwice_r (a0 : Heap) (a1 : Grey) (a2 : List Val) : Option (Bool × Unit) :=
  (flotsamlaw16_awake ()).bind fun y1 =>
  bif !y1.1 then
    (flotsamlaw16_awake ()).bind fun y2 =>
    some (y2.1, ())
  else
  (flotsamref07_Form (a0, ())).bind fun y3 =>
  bif !y3.1 then
    (flotsamlaw16_awake ()).bind fun y4 =>
    some (y4.1, ())
  else
  (flotsamref08_Apart (a0, ())).bind fun y5 =>
  bif !y5.1 then
    (flotsamlaw16_awake ()).bind fun y6 =>
    some (y6.1, ())
  else
  (flotsamref13_Right (a1, ())).bind fun y7 =>
  bif !y7.1 then
    (flotsamlaw16_awake ()).bind fun y8 =>
    some (y8.1, ())
  else
  bif decide ((a2.length : Int) > 100) then
    (flotsamlaw16_awake ()).bind fun y9 =>
    some (y9.1, ())
  else
  (shade_All (a0, a1, a2, ())).bind fun y10 =>
  (shade_All (y10.1, y10.2.1, a2, ())).bind fun y11 =>
  (flotsamlaw16_ShadeTwice_l0 (a2, y11.2.2.1, wi64 ((a2.length : Int) - 1), a0, a1, y10.1, y10.2.1, y11.1, y11.2.1, [], ())).bind fun s12 => match s12 with
  | .out s12 =>
    (shade_All (s12.2.1, s12.2.2.1, s12.2.2.2.2.2.2.2.1, ())).bind fun y13 =>
    (flotsamref07_Same (s12.2.2.2.1, s12.2.2.2.2.2.1, ())).bind fun y14 =>
    bif y14.1 then
      (flotsamref13_Same (s12.2.2.2.2.1, s12.2.2.2.2.2.2.1, ())).bind fun y15 =>
      bif y15.1 then
        bif !s12.1 then
          (flotsamref07_Same (s12.2.2.2.1, y13.1, ())).bind fun y16 =>
          some (y16.1, ())
        else
        some (false, ())
      else
      some (false, ())
    else
    some (false, ())
  | .ret s12 =>
    none
def flotsamlaw16_ShadeTwice (x : Heap × Grey × (List Val) × Unit) : Option (Bool × Unit) := flotsamlaw16_ShadeTwice_r x.1 x.2.1 x.2.2.1
noncomputable def flotsamlaw16_ShadeTwice_sm : Sum := ⟨(.cons cHeap (.cons cGrey (.cons (.sl cVal) .nil))), (.cons (.d .bool) .nil), flotsamlaw16_ShadeTwice⟩
noncomputable def flotsamlaw16_ShadeTwice_L0 : LoopSum := { hc := ⟨[], [2, 3, 4, 7, 8, 10, 11, 12, 13, 14], [(.tmp 13, cVal)], [], [0, 16, 528, 544, 736, 752], [], 896⟩, h := ⟨[(2, (.d (.sl cVal))), (3, (.pvar 0 [])), (4, (.pvar 16 [])), (7, (.pvar 528 [])), (8, (.pvar 544 [])), (10, (.pvar 736 [])), (11, (.pvar 752 [])), (12, (.d .bool)), (13, (.row 896)), (14, (.d cI))], [(0, (.d cHeap)), (16, (.d cGrey)), (528, (.d cHeap)), (544, (.d cGrey)), (736, (.d cHeap)), (752, (.d cGrey))], [(896, cVal, true)], 897⟩, xid := 0, oc := ⟨[], [3, 4, 7, 8, 10, 11, 12, 13], [(.tmp 13, cVal)], [], [0, 16, 528, 544, 736, 752], [], 896⟩, o := ⟨[(3, (.pvar 0 [])), (4, (.pvar 16 [])), (7, (.pvar 528 [])), (8, (.pvar 544 [])), (10, (.pvar 736 [])), (11, (.pvar 752 [])), (12, (.d .bool)), (13, (.row 896))], [(0, (.d cHeap)), (16, (.d cGrey)), (528, (.d cHeap)), (544, (.d cGrey)), (736, (.d cHeap)), (752, (.d cGrey))], [(896, cVal, true)], 897⟩, rc := ⟨[], [], [], [], [896], [], 896⟩, r := ⟨[], [], [], 896⟩, F := flotsamlaw16_ShadeTwice_l0 }
noncomputable def flotsamlaw16_ShadeTwice_S : List (Nat × Sum) := [(20, flotsamlaw16_awake_sm), (21, flotsamref07_Form_sm), (22, flotsamref08_Apart_sm), (23, flotsamref13_Right_sm), (24, shade_All_sm), (31, flotsamref07_Same_sm), (32, flotsamref13_Same_sm)]
noncomputable def flotsamlaw16_ShadeTwice_fl : List (Nat × Func) := []
noncomputable def flotsamlaw16_ShadeTwice_es : List AE := [⟨8, 5, 0, 0, flotsamlaw16_ShadeTwice_L0⟩]
theorem flotsamlaw16_ShadeTwice_den0 : (fun x => denStep TEv (look1 flotsamlaw16_ShadeTwice_S) (look1 flotsamlaw16_ShadeTwice_fl) (annOf flotsamlaw16_ShadeTwice_es) 8 5 Go.Proofs.Tryd.f5.ntmps 0 (cat (bodyOf Go.Proofs.Tryd.f5) [true, true, true, true, true, false, true, false, false]) flotsamlaw16_ShadeTwice_L0 x) = flotsamlaw16_ShadeTwice_s0 := by kernel_rfl
theorem flotsamlaw16_ShadeTwice_den : (fun x => denFun TEv (look1 flotsamlaw16_ShadeTwice_S) (look1 flotsamlaw16_ShadeTwice_fl) (annOf flotsamlaw16_ShadeTwice_es) 8 5 Go.Proofs.Tryd.f5 flotsamlaw16_ShadeTwice_sm.a flotsamlaw16_ShadeTwice_sm.r x) = flotsamlaw16_ShadeTwice_sm.F := by kernel_rfl
theorem flotsamlaw16_ShadeTwice_ok0 : AEok Go.Proofs.Tryd.prog TEv (look1 flotsamlaw16_ShadeTwice_S) (look1 flotsamlaw16_ShadeTwice_fl) (annOf flotsamlaw16_ShadeTwice_es) ⟨8, 5, 0, 0, flotsamlaw16_ShadeTwice_L0⟩ := aeok_of 9223372036854775808 Go.Proofs.Tryd.func5 (by kernel_rfl) flotsamlaw16_ShadeTwice_den0 (by kernel_rfl)
theorem flotsamlaw16_ShadeTwice_sem : SemOf Go.Proofs.Tryd.prog 5 flotsamlaw16_ShadeTwice_sm :=
  semMk teOk (sl := flotsamlaw16_ShadeTwice_S) (all_cons flotsamlaw16_awake_sem (all_cons flotsamref07_Form_sem (all_cons flotsamref08_Apart_sem (all_cons flotsamref13_Right_sem (all_cons shade_All_sem (all_cons flotsamref07_Same_sem (all_cons flotsamref13_Same_sem all_nil))))))) (fl := flotsamlaw16_ShadeTwice_fl) (all_nil) (es := flotsamlaw16_ShadeTwice_es) Go.Proofs.Tryd.func5 (by kernel_rfl) rfl (rng_none (by kernel_rfl) (by kernel_rfl)) (all_cons flotsamlaw16_ShadeTwice_ok0 (all_nil)) rfl flotsamlaw16_ShadeTwice_den

/-! ### flotsam/op.Pushes -/
def op_Pushes_r (a0 : Int) : Option (Bool × Unit) :=
  bif a0 == 0 then
    some (true, ())
  else
  bif a0 == 1 then
    some (true, ())
  else
  bif a0 == 3 then
    some (true, ())
  else
  bif a0 == 4 then
    some (true, ())
  else
  some (false, ())
def op_Pushes (x : Int × Unit) : Option (Bool × Unit) := op_Pushes_r x.1
noncomputable def op_Pushes_sm : Sum := ⟨(.cons cI .nil), (.cons (.d .bool) .nil), op_Pushes⟩
noncomputable def op_Pushes_S : List (Nat × Sum) := []
noncomputable def op_Pushes_fl : List (Nat × Func) := []
noncomputable def op_Pushes_es : List AE := []
theorem op_Pushes_den : (fun x => denFun TEv (look1 op_Pushes_S) (look1 op_Pushes_fl) (annOf op_Pushes_es) 8 78 Go.Proofs.Tryd.f78 op_Pushes_sm.a op_Pushes_sm.r x) = op_Pushes_sm.F := by kernel_rfl
theorem op_Pushes_sem : SemOf Go.Proofs.Tryd.prog 78 op_Pushes_sm :=
  semMk teOk (sl := op_Pushes_S) (all_nil) (fl := op_Pushes_fl) (all_nil) (es := op_Pushes_es) Go.Proofs.Tryd.func78 (by kernel_rfl) rfl (rng_none (by kernel_rfl) (by kernel_rfl)) (all_nil) rfl op_Pushes_den

/-! ### flotsam/op.within -/
def op_within_r (a0 : Int) (a1 : Int) (a2 : Int) : Option (Int × Unit) :=
  bif decide (a0 < a1) then
    some (1, ())
  else
  bif decide (a0 > a2) then
    some (1, ())
  else
  some (0, ())
def op_within (x : Int × Val) : Option (Int × Unit) := op_within_r x.1 x.2.1 x.2.2.1
noncomputable def op_within_sm : Sum := ⟨(.cons cI cVal), (.cons (.d cI) .nil), op_within⟩
noncomputable def op_within_S : List (Nat × Sum) := []
noncomputable def op_within_fl : List (Nat × Func) := []
noncomputable def op_within_es : List AE := []
theorem op_within_den : (fun x => denFun TEv (look1 op_within_S) (look1 op_within_fl) (annOf op_within_es) 8 140 Go.Proofs.Tryd.f140 op_within_sm.a op_within_sm.r x) = op_within_sm.F := by kernel_rfl
theorem op_within_sem : SemOf Go.Proofs.Tryd.prog 140 op_within_sm :=
  semMk teOk (sl := op_within_S) (all_nil) (fl := op_within_fl) (all_nil) (es := op_within_es) Go.Proofs.Tryd.func140 (by kernel_rfl) rfl (rng_none (by kernel_rfl) (by kernel_rfl)) (all_nil) rfl op_within_den

/-! ### flotsam/object.place -/
def object_place_r (a0 : Heap) (a1 : Int) (a2 : Int) : Option Val :=
  (object_Get (a0, a1, ())).bind fun y1 =>
  bif !y1.2.1 then
    some (0, 1, ())
  else
  bif decide (a2 < 0) then
    some (0, 4, ())
  else
  bif decide (a2 ≥ y1.1.2.2.2.1) then
    some (0, 4, ())
  else
  some (wi64 ((wi64 (a1 + 1)) + a2), 0, ())
def object_place (x : Heap × Val) : Option Val := object_place_r x.1 x.2.1 x.2.2.1
noncomputable def object_place_sm : Sum := ⟨(.cons cHeap cVal), (.cons (.d cI) (.cons (.d cI) .nil)), object_place⟩
noncomputable def object_place_S : List (Nat × Sum) := [(41, object_Get_sm)]
noncomputable def object_place_fl : List (Nat × Func) := []
noncomputable def object_place_es : List AE := []
theorem object_place_den : (fun x => denFun TEv (look1 object_place_S) (look1 object_place_fl) (annOf object_place_es) 8 82 Go.Proofs.Tryd.f82 object_place_sm.a object_place_sm.r x) = object_place_sm.F := by kernel_rfl
theorem object_place_sem : SemOf Go.Proofs.Tryd.prog 82 object_place_sm :=
  semMk teOk (sl := object_place_S) (all_cons object_Get_sem all_nil) (fl := object_place_fl) (all_nil) (es := object_place_es) Go.Proofs.Tryd.func82 (by kernel_rfl) rfl (rng_none (by kernel_rfl) (by kernel_rfl)) (all_nil) rfl object_place_den

/-! ### flotsam/word.Get -/
def word_Get_r (a0 : Int) : Option (Val × Unit) :=
  bif a0 == 0 then
    some ((0, 0, ()), ())
  else
  bif (bitsI .and .u64 a0 1) == 1 then
    some ((1, wi64 (shiftI false .u64 a0 1), ()), ())
  else
  some ((2, wi64 ((wi64 (shiftI false .u64 a0 1)) - 1), ()), ())
def word_Get (x : Int × Unit) : Option (Val × Unit) := word_Get_r x.1
noncomputable def word_Get_sm : Sum := ⟨(.cons (.int .u64) .nil), (.cons (.cons (.d cI) (.cons (.d cI) .nil)) .nil), word_Get⟩
noncomputable def word_Get_S : List (Nat × Sum) := []
noncomputable def word_Get_fl : List (Nat × Func) := []
noncomputable def word_Get_es : List AE := []
theorem word_Get_den : (fun x => denFun TEv (look1 word_Get_S) (look1 word_Get_fl) (annOf word_Get_es) 8 92 Go.Proofs.Tryd.f92 word_Get_sm.a word_Get_sm.r x) = word_Get_sm.F := by kernel_rfl
theorem word_Get_sem : SemOf Go.Proofs.Tryd.prog 92 word_Get_sm :=
  semMk teOk (sl := word_Get_S) (all_nil) (fl := word_Get_fl) (all_nil) (es := word_Get_es) Go.Proofs.Tryd.func92 (by kernel_rfl) rfl (rng_none (by kernel_rfl) (by kernel_rfl)) (all_nil) rfl word_Get_den

/-! ### flotsam/object.Field -/
def object_Field_r (a0 : Heap) (a1 : Int) (a2 : Int) : Option (Val × Int × Unit) :=
  (object_place (a0, a1, a2, ())).bind fun y1 =>
  bif y1.2.1 != 0 then
    some ((0, 0, ()), y1.2.1, ())
  else
  bif decide (0 ≤ y1.1) then
    bif decide (y1.1 < (a0.1.length : Int)) then
      (word_Get (a0.1.getD y1.1.toNat 0, ())).bind fun y2 =>
      some ((y2.1.1, y2.1.2.1, ()), 0, ())
    else none
  else none
def object_Field (x : Heap × Val) : Option (Val × Int × Unit) := object_Field_r x.1 x.2.1 x.2.2.1
noncomputable def object_Field_sm : Sum := ⟨(.cons cHeap cVal), (.cons (.cons (.d cI) (.cons (.d cI) .nil)) (.cons (.d cI) .nil)), object_Field⟩
noncomputable def object_Field_S : List (Nat × Sum) := [(82, object_place_sm), (92, word_Get_sm)]
noncomputable def object_Field_fl : List (Nat × Func) := []
noncomputable def object_Field_es : List AE := []
theorem object_Field_den : (fun x => denFun TEv (look1 object_Field_S) (look1 object_Field_fl) (annOf object_Field_es) 8 80 Go.Proofs.Tryd.f80 object_Field_sm.a object_Field_sm.r x) = object_Field_sm.F := by kernel_rfl
theorem object_Field_sem : SemOf Go.Proofs.Tryd.prog 80 object_Field_sm :=
  semMk teOk (sl := object_Field_S) (all_cons object_place_sem (all_cons word_Get_sem all_nil)) (fl := object_Field_fl) (all_nil) (es := object_Field_es) Go.Proofs.Tryd.func80 (by kernel_rfl) rfl (rng_none (by kernel_rfl) (by kernel_rfl)) (all_nil) rfl object_Field_den

/-! ### flotsam/roots.Slot -/
def roots_Slot_r (a0 : List Val) (a1 : Int) : Option (Val × Int × Unit) :=
  bif decide (a1 < 0) then
    some ((0, 0, ()), 3, ())
  else
  bif decide (a1 ≥ (a0.length : Int)) then
    some ((0, 0, ()), 3, ())
  else
  bif decide (0 ≤ a1) then
    bif decide (a1 < (a0.length : Int)) then
      some (a0.getD a1.toNat (0, 0, ()), 0, ())
    else none
  else none
def roots_Slot (x : (List Val) × Int × Unit) : Option (Val × Int × Unit) := roots_Slot_r x.1 x.2.1
noncomputable def roots_Slot_sm : Sum := ⟨(.cons (.sl cVal) (.cons cI .nil)), (.cons (.d cVal) (.cons (.d cI) .nil)), roots_Slot⟩
noncomputable def roots_Slot_S : List (Nat × Sum) := []
noncomputable def roots_Slot_fl : List (Nat × Func) := []
noncomputable def roots_Slot_es : List AE := []
theorem roots_Slot_den : (fun x => denFun TEv (look1 roots_Slot_S) (look1 roots_Slot_fl) (annOf roots_Slot_es) 8 142 Go.Proofs.Tryd.f142 roots_Slot_sm.a roots_Slot_sm.r x) = roots_Slot_sm.F := by kernel_rfl
theorem roots_Slot_sem : SemOf Go.Proofs.Tryd.prog 142 roots_Slot_sm :=
  semMk teOk (sl := roots_Slot_S) (all_nil) (fl := roots_Slot_fl) (all_nil) (es := roots_Slot_es) Go.Proofs.Tryd.func142 (by kernel_rfl) rfl (rng_none (by kernel_rfl) (by kernel_rfl)) (all_nil) rfl roots_Slot_den

/-! ### flotsam/roots.Object -/
def roots_Object_r (a0 : List Val) (a1 : Int) : Option Val :=
  (roots_Slot (a0, a1, ())).bind fun y1 =>
  bif y1.2.1 != 0 then
    some (0, y1.2.1, ())
  else
  bif y1.1.1 == 0 then
    some (0, 2, ())
  else
  bif y1.1.1 != 2 then
    some (0, 7, ())
  else
  some (y1.1.2.1, 0, ())
def roots_Object (x : (List Val) × Int × Unit) : Option Val := roots_Object_r x.1 x.2.1
noncomputable def roots_Object_sm : Sum := ⟨(.cons (.sl cVal) (.cons cI .nil)), (.cons (.d cI) (.cons (.d cI) .nil)), roots_Object⟩
noncomputable def roots_Object_S : List (Nat × Sum) := [(142, roots_Slot_sm)]
noncomputable def roots_Object_fl : List (Nat × Func) := []
noncomputable def roots_Object_es : List AE := []
theorem roots_Object_den : (fun x => denFun TEv (look1 roots_Object_S) (look1 roots_Object_fl) (annOf roots_Object_es) 8 167 Go.Proofs.Tryd.f167 roots_Object_sm.a roots_Object_sm.r x) = roots_Object_sm.F := by kernel_rfl
theorem roots_Object_sem : SemOf Go.Proofs.Tryd.prog 167 roots_Object_sm :=
  semMk teOk (sl := roots_Object_S) (all_cons roots_Slot_sem all_nil) (fl := roots_Object_fl) (all_nil) (es := roots_Object_es) Go.Proofs.Tryd.func167 (by kernel_rfl) rfl (rng_none (by kernel_rfl) (by kernel_rfl)) (all_nil) rfl roots_Object_den
end Go.Proofs.YtdfhopakojmjkaaDoor.Den
