/- What functions come to. Printed by a program of this session. -/
import Derived.Test.YtkjpakaidjpjgaaGreatDoorDfnF5
namespace Go.Proofs.YtkjpakaidjpjgaaGreatDoor.Dfn
open Go
set_option maxRecDepth 100000
set_option linter.unusedVariables false
noncomputable section
def r20_Sweeper_r (a0 : Wrld) : Option (Wrld × Int × Unit) :=
 bif a0.2.2.2.2.1 != 2 then
  some (a0, 0, ())
 else
 (r20_Caches (a0, ())).bind fun y1 =>
 (r12_One (a0.2.1, y1.1, ())).bind fun y2 =>
 (r12_Dirty (y2.1, ())).bind fun y3 =>
 bif y3.1 == 0 then
  some ((a0.1, y2.1, a0.2.2.1, a0.2.2.2.1, 0, a0.2.2.2.2.2), 5, ())
 else
 some ((a0.1, y2.1, a0.2.2), 1, ())
def r20_Sweeper (x : Wrld × Unit) : Option (Wrld × Int × Unit) := r20_Sweeper_r x.1
def r20_Sweeper_sm : Sum := ⟨(.cons cWrld .nil), (.cons (.d cWrld) (.cons (.d cI) .nil)), r20_Sweeper⟩
def r20_Sweeper_c : Ctx := ⟨[(49, r20_Caches_sm), (68, r12_Dirty_sm), (117, r12_One_sm)], [], []⟩
theorem r20_Sweeper_sem : SemOf Tryz.prog 51 r20_Sweeper_sm := semC (c := r20_Sweeper_c) Tryz.func51 (sc r20_Caches_sem (sc r12_Dirty_sem (sc r12_One_sem an))) an an 8
def r14_Push_r (a0 : List Val) (a1 : Int) (a2 : Val) : Option ((List Val) × Int × Unit) :=
 bif decide ((a0.length : Int) ≥ a1) then
  some (a0, 5, ())
 else
 bif decide ((0 + a0.length) * 16 ≤ 140737488355328) then
  bif decide ((a0.length + 1) * 16 ≤ 140737488355328) then
   some (a0 ++ [a2], 0, ())
  else none
 else none
def r14_Push (x : (List Val) × Int × Val × Unit) : Option ((List Val) × Int × Unit) := r14_Push_r x.1 x.2.1 x.2.2.1
def r14_Push_sm : Sum := ⟨(.cons (.sl cVal) (.cons cI (.cons cVal .nil))), (.cons (.d (.sl cVal)) (.cons (.d cI) .nil)), r14_Push⟩
def r14_Push_c : Ctx := ⟨[], [], []⟩
theorem r14_Push_sem : SemOf Tryz.prog 118 r14_Push_sm := semC (c := r14_Push_c) Tryz.func118 an an an 8
def r21_pushed_r (a0 : Wrld) (a1 : Int) (a2 : Val) : Option (Wrld × (Int × Int × Int × Val × Unit) × Unit) :=
 bif decide (0 ≤ a1) then
  bif decide (a1 < (a0.2.2.1.length : Int)) then
   (r14_Push ((a0.2.2.1.getD a1.toNat ([], 0, (0, 0, 0, 0, ()), 0, (0, 0, ()), List.replicate 4 0, ())).1, a0.1.2.2.1, a2, ())).bind fun y1 =>
   (r21_done (a0, a1, y1.1, 0, a2, ())).bind fun y2 =>
   some ((y2.1.1, y2.1.2.1, y2.1.2.2.1, y2.1.2.2.2), (y2.2.1.1, y2.2.1.2.1, y2.2.1.2.2.1, y2.2.1.2.2.2.1, ()), ())
  else none
 else none
def r21_pushed (x : Wrld × Int × Val × Unit) : Option (Wrld × (Int × Int × Int × Val × Unit) × Unit) := r21_pushed_r x.1 x.2.1 x.2.2.1
def r21_pushed_sm : Sum := ⟨(.cons cWrld (.cons cI (.cons cVal .nil))), (.cons (.cons (.d cRep) (.cons (.d cHeap) (.cons (.own cMut) (.d (.cons cMarker (.cons cI (.cons .bool (.cons cI (.cons (.sl cRep) .nil))))))))) (.cons (.cons (.d cI) (.cons (.d cI) (.cons (.d cI) (.cons (.d cVal) .nil)))) .nil)), r21_pushed⟩
def r21_pushed_c : Ctx := ⟨[(46, r21_done_sm), (118, r14_Push_sm)], [], []⟩
theorem r21_pushed_sem : SemOf Tryz.prog 52 r21_pushed_sm := semC (c := r21_pushed_c) Tryz.func52 (sc r21_done_sem (sc r14_Push_sem an)) an an 8
def r14_Pop_r (a0 : List Val) : Option ((List Val) × Val × Int × Unit) :=
 bif (a0.length : Int) == 0 then
  some (a0, (0, 0, ()), 3, ())
 else
 bif decide (0 ≤ (wi64 ((a0.length : Int) - 1))) then
  bif decide ((wi64 ((a0.length : Int) - 1)) ≤ (a0.length : Int)) then
   bif decide ((0 + ((a0.drop 0).take ((wi64 ((a0.length : Int) - 1)).toNat - 0)).length) * 16 ≤ 140737488355328) then
    bif decide (0 ≤ (wi64 ((a0.length : Int) - 1))) then
     bif decide ((wi64 ((a0.length : Int) - 1)) < (a0.length : Int)) then
      some ((a0.drop 0).take ((wi64 ((a0.length : Int) - 1)).toNat - 0), a0.getD (wi64 ((a0.length : Int) - 1)).toNat (0, 0, ()), 0, ())
     else none
    else none
   else none
  else none
 else none
def r14_Pop (x : (List Val) × Unit) : Option ((List Val) × Val × Int × Unit) := r14_Pop_r x.1
def r14_Pop_sm : Sum := ⟨(.cons (.sl cVal) .nil), (.cons (.d (.sl cVal)) (.cons (.d cVal) (.cons (.d cI) .nil))), r14_Pop⟩
def r14_Pop_c : Ctx := ⟨[], [], []⟩
theorem r14_Pop_sem : SemOf Tryz.prog 111 r14_Pop_sm := semC (c := r14_Pop_c) Tryz.func111 an an an 8
abbrev r08_with_h0 : U := (.cons cI (.cons (.int .u64) (.cons cI (.cons cHeap (.cons (.cons .bool .nil) (.cons (.cons .bool .nil) (.cons (.sl cSpan) (.cons (.sl (.int .u64)) .nil))))))))
abbrev r08_with_o0 : U := (.cons (.cons .bool .nil) (.cons (.cons .bool .nil) (.cons (.sl cSpan) (.cons (.sl (.int .u64)) .nil))))
abbrev r08_with_e0 : U := .nil
def r08_with_s0r (v1 : Int) (v2 : Int) (v8 : Int) (c0 : Heap) (c16 : Bool × Unit) (c80 : Bool × Unit) (r176 : List Span) (r240 : List Int) : Option (SRes r08_with_h0 r08_with_o0 r08_with_e0) :=
 bif decide (v8 < (c0.1.length : Int)) then
  bif decide (0 ≤ v8) then
   bif decide (v8 < (c0.1.length : Int)) then
    bif v8 == v1 then
     bif decide ((r240.length + 1) * 8 ≤ 140737488355328) then
      some (.next (v1, v2, wi64 (v8 + 1), c0, c16, c80, r176, r240 ++ [v2], ()))
     else none
    else
    bif decide ((r240.length + 1) * 8 ≤ 140737488355328) then
     some (.next (v1, v2, wi64 (v8 + 1), c0, c16, c80, r176, r240 ++ [c0.1.getD v8.toNat 0], ()))
    else none
   else none
  else none
 else
 some (.fin (.out (c16, c80, r176, r240, ())))
def r08_with_s0 (x : r08_with_h0.T) : Option (SRes r08_with_h0 r08_with_o0 r08_with_e0) := r08_with_s0r x.1 x.2.1 x.2.2.1 x.2.2.2.1 x.2.2.2.2.1 x.2.2.2.2.2.1 x.2.2.2.2.2.2.1 x.2.2.2.2.2.2.2.1
def r08_with_l0 (x : r08_with_h0.T) : Option (LRes r08_with_o0 r08_with_e0) := iterL r08_with_s0 9223372036854775808 x
def r08_with_r (a0 : Heap) (a1 : Int) (a2 : Int) : Option (Heap × Unit) :=
 bif decide (a0.2.1.length * 24 ≤ 140737488355328) then
  (r08_with_l0 (a1, a2, 0, a0, (false, ()), (a0.2.2.1, ()), a0.2.1, [], ())).bind fun s1 => match s1 with
  | .out s1 =>
   some ((s1.2.2.2.1, s1.2.2.1, s1.2.1), ())
  | .ret s1 =>
   none
 else none
def r08_with (x : Heap × Int × Int × Unit) : Option (Heap × Unit) := r08_with_r x.1 x.2.1 x.2.2.1
def r08_with_sm : Sum := ⟨(.cons cHeap (.cons cI (.cons (.int .u64) .nil))), (.cons (.cons (.own (.int .u64)) (.cons (.own cSpan) (.d (.cons .bool .nil)))) .nil), r08_with⟩
def r08_with_L0 : LoopSum := { hc := ⟨[], [1, 2, 3, 6, 7, 8], [(.key 80 [.fld 0], (.int .u64))], [], [0, 16, 80], [176], 240⟩, h := ⟨[(1, (.d cI)), (2, (.d (.int .u64))), (3, (.pvar 0 [])), (6, (.pvar 16 [])), (7, (.pvar 80 [])), (8, (.d cI))], [(0, (.d cHeap)), (16, (.cons .nilsl (.cons .nilsl (.d (.cons .bool .nil))))), (80, (.cons (.row 240) (.cons (.row 176) (.d (.cons .bool .nil)))))], [(176, cSpan, true), (240, (.int .u64), true)], 241⟩, xid := 0, oc := ⟨[], [6, 7], [(.ptr 7 [.fld 0], (.int .u64))], [], [16, 80], [176], 240⟩, o := ⟨[(6, (.pvar 16 [])), (7, (.pvar 80 []))], [(16, (.cons .nilsl (.cons .nilsl (.d (.cons .bool .nil))))), (80, (.cons (.row 240) (.cons (.row 176) (.d (.cons .bool .nil)))))], [(176, cSpan, true), (240, (.int .u64), true)], 241⟩, rc := ⟨[], [], [], [], [240], [], 240⟩, r := ⟨[], [], [], 240⟩, F := r08_with_l0 }
def r08_with_c : Ctx := ⟨[], [], [⟨8, 120, 0, 0, r08_with_L0⟩]⟩
theorem r08_with_sem : SemOf Tryz.prog 120 r08_with_sm := semC (c := r08_with_c) Tryz.func120 an an (ec (aeC [true, true, true, false, true, false, false] r08_with_s0 Tryz.func120) an) 8
def r08_Paint_r (a0 : Heap) (a1 : Int) : Option (Heap × Bool × Unit) :=
 (r08_Get (a0, a1, ())).bind fun y1 =>
 bif !y1.2.1 then
  some (a0, false, ())
 else
 (r02_Put ((y1.1.1, a0.2.2.1, y1.1.2.2), ())).bind fun y2 =>
 (r08_with (a0, a1, y2.1, ())).bind fun y3 =>
 some ((y3.1.1, y3.1.2.1, y3.1.2.2), true, ())
def r08_Paint (x : Heap × Int × Unit) : Option (Heap × Bool × Unit) := r08_Paint_r x.1 x.2.1
def r08_Paint_sm : Sum := ⟨(.cons cHeap (.cons cI .nil)), (.cons (.d cHeap) (.cons (.d .bool) .nil)), r08_Paint⟩
def r08_Paint_c : Ctx := ⟨[(65, r08_Get_sm), (120, r08_with_sm), (195, r02_Put_sm)], [], []⟩
theorem r08_Paint_sem : SemOf Tryz.prog 252 r08_Paint_sm := semC (c := r08_Paint_c) Tryz.func252 (sc r08_Get_sem (sc r08_with_sem (sc r02_Put_sem an))) an an 8
def r13_Push_r (a0 : Grey) (a1 : Int) : Option (Grey × Bool × Unit) :=
 bif decide (a1 < 0) then
  some (a0, false, ())
 else
 bif decide ((a0.2.1.length : Int) ≥ a0.1) then
  some (a0, false, ())
 else
 bif decide ((0 + a0.2.1.length) * 8 ≤ 140737488355328) then
  bif decide ((a0.2.1.length + 1) * 8 ≤ 140737488355328) then
   some ((a0.1, a0.2.1 ++ [a1], ()), true, ())
  else none
 else none
def r13_Push (x : Grey × Int × Unit) : Option (Grey × Bool × Unit) := r13_Push_r x.1 x.2.1
def r13_Push_sm : Sum := ⟨(.cons cGrey (.cons cI .nil)), (.cons (.d cGrey) (.cons (.d .bool) .nil)), r13_Push⟩
def r13_Push_c : Ctx := ⟨[], [], []⟩
theorem r13_Push_sem : SemOf Tryz.prog 253 r13_Push_sm := semC (c := r13_Push_c) Tryz.func253 an an an 8
def r16_Shade_r (a0 : Heap) (a1 : Grey) (a2 : Val) : Option (Heap × Grey × Bool × Unit) :=
 (r08_Get (a0, a2.2.1, ())).bind fun y1 =>
 bif a2.1 != 2 then
  some (a0, a1, false, ())
 else
 bif !y1.2.1 then
  some (a0, a1, false, ())
 else
 (r08_Black (a0, a2.2.1, ())).bind fun y2 =>
 bif y2.1 then
  some (a0, a1, false, ())
 else
 (r08_Paint (a0, a2.2.1, ())).bind fun y3 =>
 (r13_Push (a1, a2.2.1, ())).bind fun y4 =>
 some (y3.1, y4.1, !y4.2.1, ())
def r16_Shade (x : Heap × Grey × Val × Unit) : Option (Heap × Grey × Bool × Unit) := r16_Shade_r x.1 x.2.1 x.2.2.1
def r16_Shade_sm : Sum := ⟨(.cons cHeap (.cons cGrey (.cons cVal .nil))), (.cons (.d cHeap) (.cons (.d cGrey) (.cons (.d .bool) .nil))), r16_Shade⟩
def r16_Shade_c : Ctx := ⟨[(65, r08_Get_sm), (69, r08_Black_sm), (252, r08_Paint_sm), (253, r13_Push_sm)], [], []⟩
theorem r16_Shade_sem : SemOf Tryz.prog 188 r16_Shade_sm := semC (c := r16_Shade_c) Tryz.func188 (sc r08_Get_sem (sc r08_Black_sem (sc r08_Paint_sem (sc r13_Push_sem an)))) an an 8
abbrev r17_Note_h0 : U := (.cons cI (.cons .bool (.cons cI (.cons cMarker (.cons (.cons .bool .nil) (.cons cI (.cons .nil (.cons (.cons cI (.cons cI (.cons cI (.cons .bool .nil)))) (.cons cHeap (.cons cGrey (.cons (.sl cGrey) .nil)))))))))))
abbrev r17_Note_o0 : U := (.cons .bool (.cons cMarker (.cons (.cons .bool .nil) (.cons cI (.cons .nil (.cons (.cons cI (.cons cI (.cons cI (.cons .bool .nil)))) (.cons cHeap (.cons (.sl cGrey) .nil))))))))
abbrev r17_Note_e0 : U := .nil
def r17_Note_s0r (v2 : Int) (v12 : Bool) (v14 : Int) (c16 : Marker) (c48 : Bool × Unit) (c64_0 : Int) (c64_1 : Unit) (c64_2 : Int × Int × Int × Bool × Unit) (c272 : Heap) (c288 : Grey) (r384 : List Grey) : Option (SRes r17_Note_h0 r17_Note_o0 r17_Note_e0) :=
 bif decide (v14 < (c16.2.1.length : Int)) then
  bif v14 == v2 then
   bif decide ((r384.length + 1) * 32 ≤ 140737488355328) then
    some (.next (v2, v12, wi64 (v14 + 1), c16, c48, c64_0, c64_1, c64_2, c272, c288, r384 ++ [c288], ()))
   else none
  else
  bif decide (0 ≤ v14) then
   bif decide (v14 < (c16.2.1.length : Int)) then
    bif decide ((r384.length + 1) * 32 ≤ 140737488355328) then
     some (.next (v2, v12, wi64 (v14 + 1), c16, c48, c64_0, c64_1, c64_2, c272, c288, r384 ++ [c16.2.1.getD v14.toNat (0, [], ())], ()))
    else none
   else none
  else none
 else
 some (.fin (.out (v12, c16, c48, c64_0, c64_1, c64_2, c272, r384, ())))
def r17_Note_s0 (x : r17_Note_h0.T) : Option (SRes r17_Note_h0 r17_Note_o0 r17_Note_e0) := r17_Note_s0r x.1 x.2.1 x.2.2.1 x.2.2.2.1 x.2.2.2.2.1 x.2.2.2.2.2.1 x.2.2.2.2.2.2.1 x.2.2.2.2.2.2.2.1 x.2.2.2.2.2.2.2.2.1 x.2.2.2.2.2.2.2.2.2.1 x.2.2.2.2.2.2.2.2.2.2.1
def r17_Note_l0 (x : r17_Note_h0.T) : Option (LRes r17_Note_o0 r17_Note_e0) := iterL r17_Note_s0 9223372036854775808 x
def r17_Note_r (a0 : Heap) (a1 : Marker) (a2 : Int) (a3 : Val) : Option (Heap × Marker × Unit) :=
 bif decide (0 ≤ a2) then
  bif decide (a2 < (a1.2.1.length : Int)) then
   (r16_Shade (a0, a1.2.1.getD a2.toNat (0, [], ()), a3, ())).bind fun y1 =>
   (r17_Note_l0 (a2, y1.2.2.1, 0, a1, (false, ()), 0, (), (0, 0, 0, false, ()), y1.1, y1.2.1, [], ())).bind fun s2 => match s2 with
   | .out s2 =>
    bif s2.2.1.2.2.2.2.2.2.1 then
     some (s2.2.2.2.2.2.2.1, (s2.2.1.1, s2.2.2.2.2.2.2.2.1, s2.2.1.2.2.1, s2.2.1.2.2.2.1, s2.2.1.2.2.2.2.1, s2.2.1.2.2.2.2.2.1, true, s2.2.1.2.2.2.2.2.2.2), ())
    else
    some (s2.2.2.2.2.2.2.1, (s2.2.1.1, s2.2.2.2.2.2.2.2.1, s2.2.1.2.2.1, s2.2.1.2.2.2.1, s2.2.1.2.2.2.2.1, s2.2.1.2.2.2.2.2.1, s2.1, s2.2.1.2.2.2.2.2.2.2), ())
   | .ret s2 =>
    none
  else none
 else none
def r17_Note (x : Heap × Marker × Int × Val × Unit) : Option (Heap × Marker × Unit) := r17_Note_r x.1 x.2.1 x.2.2.1 x.2.2.2.1
def r17_Note_sm : Sum := ⟨(.cons cHeap (.cons cMarker (.cons cI (.cons cVal .nil)))), (.cons (.d cHeap) (.cons (.cons (.d cGrey) (.cons (.own cGrey) (.d (.cons (.sl cVal) (.cons cI (.cons cI (.cons cI (.cons .bool .nil)))))))) .nil)), r17_Note⟩
def r17_Note_L0 : LoopSum := { hc := ⟨[], [2, 5, 8, 9, 10, 11, 12, 13, 14], [(.tmp 13, cGrey)], [], [16, 48, 64, 272, 288], [], 384⟩, h := ⟨[(2, (.d cI)), (5, (.pvar 16 [])), (8, (.pvar 48 [])), (9, (.pvar 64 [])), (10, (.pvar 272 [])), (11, (.pvar 288 [])), (12, (.d .bool)), (13, (.row 384)), (14, (.d cI))], [(16, (.d cMarker)), (48, (.cons .nilsl (.cons .nilsl (.d (.cons .bool .nil))))), (64, (.cons (.cons (.d cI) (.cons .nilsl (.d .nil))) (.cons .nilsl (.cons .nilsl (.d (.cons cI (.cons cI (.cons cI (.cons .bool .nil))))))))), (272, (.d cHeap)), (288, (.d cGrey))], [(384, cGrey, true)], 385⟩, xid := 0, oc := ⟨[], [5, 8, 9, 10, 12, 13], [(.tmp 13, cGrey)], [], [16, 48, 64, 272], [], 384⟩, o := ⟨[(5, (.pvar 16 [])), (8, (.pvar 48 [])), (9, (.pvar 64 [])), (10, (.pvar 272 [])), (12, (.d .bool)), (13, (.row 384))], [(16, (.d cMarker)), (48, (.cons .nilsl (.cons .nilsl (.d (.cons .bool .nil))))), (64, (.cons (.cons (.d cI) (.cons .nilsl (.d .nil))) (.cons .nilsl (.cons .nilsl (.d (.cons cI (.cons cI (.cons cI (.cons .bool .nil))))))))), (272, (.d cHeap))], [(384, cGrey, true)], 385⟩, rc := ⟨[], [], [], [], [384], [], 384⟩, r := ⟨[], [], [], 384⟩, F := r17_Note_l0 }
def r17_Note_c : Ctx := ⟨[(188, r16_Shade_sm)], [], [⟨8, 112, 0, 0, r17_Note_L0⟩]⟩
theorem r17_Note_sem : SemOf Tryz.prog 112 r17_Note_sm := semC (c := r17_Note_c) Tryz.func112 (sc r16_Shade_sem an) an (ec (aeC [true, true, true, false, true, false, false] r17_Note_s0 Tryz.func112) an) 8
def r21_begun_r (a0 : Wrld) (a1 : Int) (a2 : Int × Int × Val) : Option (Wrld × (Int × Int × Int × Val × Unit) × Unit) :=
 bif decide (0 ≤ a1) then
  bif decide (a1 < (a0.2.2.1.length : Int)) then
   bif a2.1 == 0 then
    (r20_Sweeper (a0, ())).bind fun y1 =>
    (r21_with (y1.1, a1, ((a0.2.2.1.getD a1.toNat ([], 0, (0, 0, 0, 0, ()), 0, (0, 0, ()), List.replicate 4 0, ())).1, 1, a2, (a0.2.2.1.getD a1.toNat ([], 0, (0, 0, 0, 0, ()), 0, (0, 0, ()), List.replicate 4 0, ())).2.2.2), ())).bind fun y2 =>
    some ((y2.1.1, y2.1.2.1, y2.1.2.2.1, y2.1.2.2.2), (a1, 1, 0, (0, 0, ()), ()), ())
   else
   bif a2.1 == 3 then
    (r14_Slot ((a0.2.2.1.getD a1.toNat ([], 0, (0, 0, 0, 0, ()), 0, (0, 0, ()), List.replicate 4 0, ())).1, a2.2.1, ())).bind fun y3 =>
    (r21_pushed (a0, a1, y3.1, ())).bind fun y4 =>
    some ((y4.1.1, y4.1.2.1, y4.1.2.2.1, y4.1.2.2.2), (y4.2.1.1, y4.2.1.2.1, y4.2.1.2.2.1, y4.2.1.2.2.2.1, ()), ())
   else
   bif a2.1 == 4 then
    (r21_pushed (a0, a1, (1, a2.2.1, ()), ())).bind fun y5 =>
    some ((y5.1.1, y5.1.2.1, y5.1.2.2.1, y5.1.2.2.2), (y5.2.1.1, y5.2.1.2.1, y5.2.1.2.2.1, y5.2.1.2.2.2.1, ()), ())
   else
   bif a2.1 == 5 then
    (r14_Pop ((a0.2.2.1.getD a1.toNat ([], 0, (0, 0, 0, 0, ()), 0, (0, 0, ()), List.replicate 4 0, ())).1, ())).bind fun y6 =>
    (r21_done (a0, a1, y6.1, 0, (0, 0, ()), ())).bind fun y7 =>
    some ((y7.1.1, y7.1.2.1, y7.1.2.2.1, y7.1.2.2.2), (y7.2.1.1, y7.2.1.2.1, y7.2.1.2.2.1, y7.2.1.2.2.2.1, ()), ())
   else
   bif a2.1 == 6 then
    (r21_done ((a0.1, a0.2.1, a0.2.2.1, a0.2.2.2.1, a0.2.2.2.2.1, true, a0.2.2.2.2.2.2), a1, (a0.2.2.1.getD a1.toNat ([], 0, (0, 0, 0, 0, ()), 0, (0, 0, ()), List.replicate 4 0, ())).1, 0, (0, 0, ()), ())).bind fun y8 =>
    some ((y8.1.1, y8.1.2.1, y8.1.2.2.1, y8.1.2.2.2), (y8.2.1.1, y8.2.1.2.1, y8.2.1.2.2.1, y8.2.1.2.2.2.1, ()), ())
   else
   (r14_Object ((a0.2.2.1.getD a1.toNat ([], 0, (0, 0, 0, 0, ()), 0, (0, 0, ()), List.replicate 4 0, ())).1, a2.2.1, ())).bind fun y9 =>
   (r08_Field (a0.2.1, y9.1, a2.2.2.1, ())).bind fun y10 =>
   bif a2.1 == 1 then
    (r21_with (a0, a1, ((a0.2.2.1.getD a1.toNat ([], 0, (0, 0, 0, 0, ()), 0, (0, 0, ()), List.replicate 4 0, ())).1, 3, a2, (a0.2.2.1.getD a1.toNat ([], 0, (0, 0, 0, 0, ()), 0, (0, 0, ()), List.replicate 4 0, ())).2.2.2.1, (y10.1.1, y10.1.2.1, ()), (a0.2.2.1.getD a1.toNat ([], 0, (0, 0, 0, 0, ()), 0, (0, 0, ()), List.replicate 4 0, ())).2.2.2.2.2), ())).bind fun y11 =>
    some ((y11.1.1, y11.1.2.1, y11.1.2.2.1, y11.1.2.2.2), (a1, 1, 0, (0, 0, ()), ()), ())
   else
   (r14_Slot ((a0.2.2.1.getD a1.toNat ([], 0, (0, 0, 0, 0, ()), 0, (0, 0, ()), List.replicate 4 0, ())).1, a2.2.2.2.1, ())).bind fun y12 =>
   bif a0.2.2.2.2.1 == 1 then
    (r17_Note (a0.2.1, a0.2.2.2.1, a1, (y10.1.1, y10.1.2.1, ()), ())).bind fun y13 =>
    (r21_with ((a0.1, y13.1, a0.2.2.1, (y13.2.1.1, y13.2.1.2.1, y13.2.1.2.2), a0.2.2.2.2), a1, ((a0.2.2.1.getD a1.toNat ([], 0, (0, 0, 0, 0, ()), 0, (0, 0, ()), List.replicate 4 0, ())).1, 4, a2, y9.1, y12.1, (a0.2.2.1.getD a1.toNat ([], 0, (0, 0, 0, 0, ()), 0, (0, 0, ()), List.replicate 4 0, ())).2.2.2.2.2), ())).bind fun y14 =>
    some ((y14.1.1, y14.1.2.1, y14.1.2.2.1, y14.1.2.2.2), (a1, 1, 0, (0, 0, ()), ()), ())
   else
   (r21_with (a0, a1, ((a0.2.2.1.getD a1.toNat ([], 0, (0, 0, 0, 0, ()), 0, (0, 0, ()), List.replicate 4 0, ())).1, 4, a2, y9.1, y12.1, (a0.2.2.1.getD a1.toNat ([], 0, (0, 0, 0, 0, ()), 0, (0, 0, ()), List.replicate 4 0, ())).2.2.2.2.2), ())).bind fun y15 =>
   some ((y15.1.1, y15.1.2.1, y15.1.2.2.1, y15.1.2.2.2), (a1, 1, 0, (0, 0, ()), ()), ())
  else none
 else none
def r21_begun (x : Wrld × Int × (Int × Int × Val) × Unit) : Option (Wrld × (Int × Int × Int × Val × Unit) × Unit) := r21_begun_r x.1 x.2.1 x.2.2.1
def r21_begun_sm : Sum := ⟨(.cons cWrld (.cons cI (.cons (.cons cI (.cons cI cVal)) .nil))), (.cons (.cons (.d cRep) (.cons (.d cHeap) (.cons (.own cMut) (.d (.cons cMarker (.cons cI (.cons .bool (.cons cI (.cons (.sl cRep) .nil))))))))) (.cons (.cons (.d cI) (.cons (.d cI) (.cons (.d cI) (.cons (.d cVal) .nil)))) .nil)), r21_begun⟩
def r21_begun_c : Ctx := ⟨[(46, r21_done_sm), (50, r21_with_sm), (51, r20_Sweeper_sm), (52, r21_pushed_sm), (108, r14_Object_sm), (109, r08_Field_sm), (110, r14_Slot_sm), (111, r14_Pop_sm), (112, r17_Note_sm)], [], []⟩
theorem r21_begun_sem : SemOf Tryz.prog 47 r21_begun_sm := semC (c := r21_begun_c) Tryz.func47 (sc r21_done_sem (sc r21_with_sem (sc r20_Sweeper_sem (sc r21_pushed_sem (sc r14_Object_sem (sc r08_Field_sem (sc r14_Slot_sem (sc r14_Pop_sem (sc r17_Note_sem an))))))))) an an 8
def r04_Of_r (a0 : Int) : Option (Int × Bool × Unit) :=
 bif decide (a0 < 0) then
  some (0, false, ())
 else
 bif decide (a0 > 15) then
  some (0, false, ())
 else
 bif decide (a0 ≤ 1) then
  some (0, true, ())
 else
 bif decide (a0 ≤ 3) then
  some (1, true, ())
 else
 bif decide (a0 ≤ 7) then
  some (2, true, ())
 else
 some (3, true, ())
def r04_Of (x : Int × Unit) : Option (Int × Bool × Unit) := r04_Of_r x.1
def r04_Of_sm : Sum := ⟨(.cons cI .nil), (.cons (.d cI) (.cons (.d .bool) .nil)), r04_Of⟩
def r04_Of_c : Ctx := ⟨[], [], []⟩
theorem r04_Of_sem : SemOf Tryz.prog 113 r04_Of_sm := semC (c := r04_Of_c) Tryz.func113 an an an 8
def r11_open_r (a0 : Span) : Option (Bool × Unit) :=
 bif a0.1 == 1 then
  (r06_Free (a0, ())).bind fun y1 =>
  some (decide (y1.1 > 0), ())
 else
 some (false, ())
def r11_open (x : Span × Unit) : Option (Bool × Unit) := r11_open_r x.1
def r11_open_sm : Sum := ⟨(.cons cSpan .nil), (.cons (.d .bool) .nil), r11_open⟩
def r11_open_c : Ctx := ⟨[(91, r06_Free_sm)], [], []⟩
theorem r11_open_sem : SemOf Tryz.prog 189 r11_open_sm := semC (c := r11_open_c) Tryz.func189 (sc r06_Free_sem an) an an 8
abbrev r11_Page_h0 : U := (.cons (.sl (.arr 4 cI)) (.cons cI (.cons cI (.cons cHeap .nil))))
abbrev r11_Page_o0 : U := (.cons cHeap .nil)
abbrev r11_Page_e0 : U := (.cons cI (.cons .bool .nil))
def r11_Page_s0r (v1 : List (List Int)) (v3 : Int) (v10 : Int) (c0 : Heap) : Option (SRes r11_Page_h0 r11_Page_o0 r11_Page_e0) :=
 bif decide (v10 < (c0.2.1.length : Int)) then
  bif decide (0 ≤ v10) then
   bif decide (v10 < (c0.2.1.length : Int)) then
    bif (c0.2.1.getD v10.toNat (0, 0, 0, ())).2.1 == v3 then
     bif decide (0 ≤ v10) then
      bif decide (v10 < (c0.2.1.length : Int)) then
       (r11_open (c0.2.1.getD v10.toNat (0, 0, 0, ()), ())).bind fun y2 =>
       bif y2.1 then
        (r11_Kept (v1, v10, ())).bind fun y3 =>
        bif !y3.1 then
         some (.fin (.ret (v10, true, ())))
        else
        some (.next (v1, v3, wi64 (v10 + 1), c0, ()))
       else
       some (.next (v1, v3, wi64 (v10 + 1), c0, ()))
      else none
     else none
    else
    some (.next (v1, v3, wi64 (v10 + 1), c0, ()))
   else none
  else none
 else
 some (.fin (.out (c0, ())))
def r11_Page_s0 (x : r11_Page_h0.T) : Option (SRes r11_Page_h0 r11_Page_o0 r11_Page_e0) := r11_Page_s0r x.1 x.2.1 x.2.2.1 x.2.2.2.1
def r11_Page_l0 (x : r11_Page_h0.T) : Option (LRes r11_Page_o0 r11_Page_e0) := iterL r11_Page_s0 9223372036854775808 x
abbrev r11_Page_h1 : U := (.cons cI (.cons cHeap .nil))
abbrev r11_Page_o1 : U := .nil
abbrev r11_Page_e1 : U := (.cons cI (.cons .bool .nil))
def r11_Page_s1r (v11 : Int) (c0 : Heap) : Option (SRes r11_Page_h1 r11_Page_o1 r11_Page_e1) :=
 bif decide (v11 < (c0.2.1.length : Int)) then
  bif decide (0 ≤ v11) then
   bif decide (v11 < (c0.2.1.length : Int)) then
    bif (c0.2.1.getD v11.toNat (0, 0, 0, ())).1 == 0 then
     some (.fin (.ret (v11, true, ())))
    else
    some (.next (wi64 (v11 + 1), c0, ()))
   else none
  else none
 else
 some (.fin (.out ()))
def r11_Page_s1 (x : r11_Page_h1.T) : Option (SRes r11_Page_h1 r11_Page_o1 r11_Page_e1) := r11_Page_s1r x.1 x.2.1
def r11_Page_l1 (x : r11_Page_h1.T) : Option (LRes r11_Page_o1 r11_Page_e1) := iterL r11_Page_s1 9223372036854775808 x
def r11_Page_r (a0 : Heap) (a1 : List (List Int)) (a2 : Int) (a3 : Int) : Option (Int × Bool × Unit) :=
 bif decide (0 ≤ a2) then
  bif decide (a2 < (a1.length : Int)) then
   bif decide (0 ≤ a3) then
    bif decide (a3 < 4) then
     bif decide (((a1.getD a2.toNat (List.replicate 4 0)).getD a3.toNat 0) ≥ 0) then
      bif decide (0 ≤ a2) then
       bif decide (a2 < (a1.length : Int)) then
        bif decide (0 ≤ a3) then
         bif decide (a3 < 4) then
          bif decide (0 ≤ ((a1.getD a2.toNat (List.replicate 4 0)).getD a3.toNat 0)) then
           bif decide (((a1.getD a2.toNat (List.replicate 4 0)).getD a3.toNat 0) < (a0.2.1.length : Int)) then
            (r11_open (a0.2.1.getD ((a1.getD a2.toNat (List.replicate 4 0)).getD a3.toNat 0).toNat (0, 0, 0, ()), ())).bind fun y1 =>
            bif y1.1 then
             bif decide (0 ≤ a2) then
              bif decide (a2 < (a1.length : Int)) then
               bif decide (0 ≤ a3) then
                bif decide (a3 < 4) then
                 some ((a1.getD a2.toNat (List.replicate 4 0)).getD a3.toNat 0, true, ())
                else none
               else none
              else none
             else none
            else
            (r11_Page_l0 (a1, a3, 0, a0, ())).bind fun s4 => match s4 with
            | .out s4 =>
             (r11_Page_l1 (0, s4.1, ())).bind fun s5 => match s5 with
             | .out s5 =>
              some (0, false, ())
             | .ret s5 =>
              some (s5.1, s5.2.1, ())
            | .ret s4 =>
             some (s4.1, s4.2.1, ())
           else none
          else none
         else none
        else none
       else none
      else none
     else
     (r11_Page_l0 (a1, a3, 0, a0, ())).bind fun s6 => match s6 with
     | .out s6 =>
      (r11_Page_l1 (0, s6.1, ())).bind fun s7 => match s7 with
      | .out s7 =>
       some (0, false, ())
      | .ret s7 =>
       some (s7.1, s7.2.1, ())
     | .ret s6 =>
      some (s6.1, s6.2.1, ())
    else none
   else none
  else none
 else none
def r11_Page (x : Heap × (List (List Int)) × Val) : Option (Int × Bool × Unit) := r11_Page_r x.1 x.2.1 x.2.2.1 x.2.2.2.1
def r11_Page_sm : Sum := ⟨(.cons cHeap (.cons (.sl (.arr 4 cI)) cVal)), (.cons (.d cI) (.cons (.d .bool) .nil)), r11_Page⟩
def r11_Page_L0 : LoopSum := { hc := ⟨[], [1, 3, 4, 10], [], [], [0], [], 384⟩, h := ⟨[(1, (.d (.sl (.arr 4 cI)))), (3, (.d cI)), (4, (.pvar 0 [])), (10, (.d cI))], [(0, (.d cHeap))], [], 384⟩, xid := 0, oc := ⟨[], [4], [], [], [0], [], 384⟩, o := ⟨[(4, (.pvar 0 []))], [(0, (.d cHeap))], [], 384⟩, rc := ⟨[], [8, 9], [], [], [], [], 384⟩, r := ⟨[(8, (.d cI)), (9, (.d .bool))], [], [], 384⟩, F := r11_Page_l0 }
def r11_Page_L1 : LoopSum := { hc := ⟨[], [4, 11], [], [], [0], [], 400⟩, h := ⟨[(4, (.pvar 0 [])), (11, (.d cI))], [(0, (.d cHeap))], [], 400⟩, xid := 2, oc := ⟨[], [], [], [], [], [], 400⟩, o := ⟨[], [], [], 400⟩, rc := ⟨[], [8, 9], [], [], [], [], 400⟩, r := ⟨[(8, (.d cI)), (9, (.d .bool))], [], [], 400⟩, F := r11_Page_l1 }
def r11_Page_c : Ctx := ⟨[(189, r11_open_sm), (190, r11_Kept_sm)], [], [⟨8, 114, 0, 0, r11_Page_L0⟩, ⟨8, 114, 0, 2, r11_Page_L1⟩]⟩
theorem r11_Page_sem : SemOf Tryz.prog 114 r11_Page_sm := semC (c := r11_Page_c) Tryz.func114 (sc r11_open_sem (sc r11_Kept_sem an)) an (ec (aeC [true, true, false, true, false, false] r11_Page_s0 Tryz.func114) (ec (aeC [true, true, true, false, true, false, false] r11_Page_s1 Tryz.func114) an)) 8
abbrev r11_Take_h0 : U := (.cons (.sl (.arr 4 cI)) (.cons cI (.cons cI (.cons cI (.cons cI (.cons cI (.cons (.cons .bool .nil) (.cons cHeap (.cons (.sl (.arr 4 cI)) .nil)))))))))
abbrev r11_Take_o0 : U := (.cons cI (.cons (.cons .bool .nil) (.cons cHeap (.cons (.sl (.arr 4 cI)) .nil))))
abbrev r11_Take_e0 : U := .nil
def r11_Take_s0r (v1 : List (List Int)) (v2 : Int) (v12 : Int) (v14 : Int) (v19 : Int) (v22 : Int) (c16 : Bool × Unit) (c865 : Heap) (r864 : List (List Int)) : Option (SRes r11_Take_h0 r11_Take_o0 r11_Take_e0) :=
 bif decide (v22 < (v1.length : Int)) then
  bif decide (0 ≤ v22) then
   bif decide (v22 < (v1.length : Int)) then
    bif v22 == v2 then
     bif decide (0 ≤ v12) then
      bif decide (v12 < 4) then
       bif decide ((r864.length + 1) * 32 ≤ 140737488355328) then
        some (.next (v1, v2, v12, v14, v19, wi64 (v22 + 1), c16, c865, r864 ++ [(v1.getD v22.toNat (List.replicate 4 0)).set v12.toNat v14], ()))
       else none
      else none
     else none
    else
    bif decide ((r864.length + 1) * 32 ≤ 140737488355328) then
     some (.next (v1, v2, v12, v14, v19, wi64 (v22 + 1), c16, c865, r864 ++ [v1.getD v22.toNat (List.replicate 4 0)], ()))
    else none
   else none
  else none
 else
 some (.fin (.out (v19, c16, c865, r864, ())))
def r11_Take_s0 (x : r11_Take_h0.T) : Option (SRes r11_Take_h0 r11_Take_o0 r11_Take_e0) := r11_Take_s0r x.1 x.2.1 x.2.2.1 x.2.2.2.1 x.2.2.2.2.1 x.2.2.2.2.2.1 x.2.2.2.2.2.2.1 x.2.2.2.2.2.2.2.1 x.2.2.2.2.2.2.2.2.1
def r11_Take_l0 (x : r11_Take_h0.T) : Option (LRes r11_Take_o0 r11_Take_e0) := iterL r11_Take_s0 9223372036854775808 x
def r11_Take_r (a0 : Heap) (a1 : List (List Int)) (a2 : Int) (a3 : Int) : Option (Heap × (List (List Int)) × Int × Bool × Unit) :=
 (r04_Of (a3, ())).bind fun y1 =>
 bif !y1.2.1 then
  some (a0, a1, 0, false, ())
 else
 (r11_Page (a0, a1, a2, y1.1, ())).bind fun y2 =>
 bif !y2.2.1 then
  some (a0, a1, 0, false, ())
 else
 (r07_Open (a0, y2.1, y1.1, ())).bind fun y3 =>
 bif !y3.2.1 then
  (r07_Lay (a0, y2.1, a3, ())).bind fun y4 =>
  (r11_Take_l0 (a1, a2, y1.1, y2.1, y4.2.1, 0, (false, ()), y4.1, [], ())).bind fun s5 => match s5 with
  | .out s5 =>
   some (s5.2.2.1, s5.2.2.2.1, s5.1, true, ())
  | .ret s5 =>
   none
 else
 (r07_Lay (y3.1, y2.1, a3, ())).bind fun y6 =>
 (r11_Take_l0 (a1, a2, y1.1, y2.1, y6.2.1, 0, (false, ()), y6.1, [], ())).bind fun s7 => match s7 with
 | .out s7 =>
  some (s7.2.2.1, s7.2.2.2.1, s7.1, true, ())
 | .ret s7 =>
  none
def r11_Take (x : Heap × (List (List Int)) × Val) : Option (Heap × (List (List Int)) × Int × Bool × Unit) := r11_Take_r x.1 x.2.1 x.2.2.1 x.2.2.2.1
def r11_Take_sm : Sum := ⟨(.cons cHeap (.cons (.sl (.arr 4 cI)) cVal)), (.cons (.d cHeap) (.cons (.d (.sl (.arr 4 cI))) (.cons (.d cI) (.cons (.d .bool) .nil)))), r11_Take⟩
def r11_Take_L0 : LoopSum := { hc := ⟨[], [1, 2, 8, 12, 14, 18, 19, 21, 22], [(.tmp 21, (.arr 4 cI))], [18], [16], [], 864⟩, h := ⟨[(1, (.d (.sl (.arr 4 cI)))), (2, (.d cI)), (8, (.pvar 16 [])), (12, (.d cI)), (14, (.d cI)), (18, (.pvar 865 [])), (19, (.d cI)), (21, (.row 864)), (22, (.d cI))], [(16, (.cons .nilsl (.cons .nilsl (.d (.cons .bool .nil))))), (865, (.d cHeap))], [(864, (.arr 4 cI), true)], 866⟩, xid := 0, oc := ⟨[], [8, 18, 19, 21], [(.tmp 21, (.arr 4 cI))], [18], [16], [], 864⟩, o := ⟨[(8, (.pvar 16 [])), (18, (.pvar 865 [])), (19, (.d cI)), (21, (.row 864))], [(16, (.cons .nilsl (.cons .nilsl (.d (.cons .bool .nil))))), (865, (.d cHeap))], [(864, (.arr 4 cI), true)], 866⟩, rc := ⟨[], [], [], [], [864], [], 864⟩, r := ⟨[], [], [], 864⟩, F := r11_Take_l0 }
def r11_Take_c : Ctx := ⟨[(113, r04_Of_sm), (114, r11_Page_sm), (115, r07_Open_sm), (116, r07_Lay_sm)], [], [⟨8, 48, 0, 0, r11_Take_L0⟩]⟩
theorem r11_Take_sem : SemOf Tryz.prog 48 r11_Take_sm := semC (c := r11_Take_c) Tryz.func48 (sc r04_Of_sem (sc r11_Page_sem (sc r07_Open_sem (sc r07_Lay_sem an)))) an (ec (aeC [true, true, true, true, true, true, true, true, true, false, true, false, false] r11_Take_s0 Tryz.func48) an) 8
def r01_May_r (a0 : Val) : Option (Bool × Unit) :=
 bif a0.1 == 0 then
  some (a0.2.1 == 0, ())
 else
 bif a0.1 == 1 then
  some (decide (a0.2.1 ≥ 0), ())
 else
 bif a0.1 == 2 then
  bif decide (a0.2.1 ≥ 0) then
   some (decide (a0.2.1 < 9223372036854775807), ())
  else
  some (false, ())
 else
 some (false, ())
def r01_May (x : Val × Unit) : Option (Bool × Unit) := r01_May_r x.1
def r01_May_sm : Sum := ⟨(.cons cVal .nil), (.cons (.d .bool) .nil), r01_May⟩
def r01_May_c : Ctx := ⟨[], [], []⟩
theorem r01_May_sem : SemOf Tryz.prog 119 r01_May_sm := semC (c := r01_May_c) Tryz.func119 an an an 8
def r01_Put_r (a0 : Val) : Option (Int × Unit) :=
 bif a0.1 == 0 then
  some (0, ())
 else
 bif a0.1 == 1 then
  some (wu64 ((wu64 (2 * (wu64 a0.2.1))) + 1), ())
 else
 some (wu64 (2 * (wu64 ((wu64 a0.2.1) + 1))), ())
def r01_Put (x : Val × Unit) : Option (Int × Unit) := r01_Put_r x.1
def r01_Put_sm : Sum := ⟨(.cons cVal .nil), (.cons (.d (.int .u64)) .nil), r01_Put⟩
def r01_Put_c : Ctx := ⟨[], [], []⟩
theorem r01_Put_sem : SemOf Tryz.prog 121 r01_Put_sm := semC (c := r01_Put_c) Tryz.func121 an an an 8
def r08_Set_r (a0 : Heap) (a1 : Int) (a2 : Int) (a3 : Val) : Option (Heap × Int × Unit) :=
 (r08_Field (a0, a1, a2, ())).bind fun y1 =>
 bif y1.2.1 != 0 then
  some (a0, y1.2.1, ())
 else
 (r01_May (a3, ())).bind fun y2 =>
 bif !y2.1 then
  some (a0, 1, ())
 else
 (r01_Put (a3, ())).bind fun y3 =>
 (r08_with (a0, wi64 ((wi64 (a1 + 1)) + a2), y3.1, ())).bind fun y4 =>
 some ((y4.1.1, y4.1.2.1, y4.1.2.2), 0, ())
def r08_Set (x : Heap × Int × Int × Val × Unit) : Option (Heap × Int × Unit) := r08_Set_r x.1 x.2.1 x.2.2.1 x.2.2.2.1
def r08_Set_sm : Sum := ⟨(.cons cHeap (.cons cI (.cons cI (.cons cVal .nil)))), (.cons (.d cHeap) (.cons (.d cI) .nil)), r08_Set⟩
def r08_Set_c : Ctx := ⟨[(109, r08_Field_sm), (119, r01_May_sm), (120, r08_with_sm), (121, r01_Put_sm)], [], []⟩
theorem r08_Set_sem : SemOf Tryz.prog 53 r08_Set_sm := semC (c := r08_Set_c) Tryz.func53 (sc r08_Field_sem (sc r01_May_sem (sc r08_with_sem (sc r01_Put_sem an)))) an an 8
def r21_Turn_r (a0 : Wrld) (a1 : Int) (a2 : Int × Int × Val) : Option (Wrld × (Int × Int × Int × Val × Unit) × Unit) :=
 bif decide (0 ≤ a1) then
  bif decide (a1 < (a0.2.2.1.length : Int)) then
   bif (a0.2.2.1.getD a1.toNat ([], 0, (0, 0, 0, 0, ()), 0, (0, 0, ()), List.replicate 4 0, ())).2.1 == 0 then
    (r19_Check (a0.2.1, (a0.2.2.1.getD a1.toNat ([], 0, (0, 0, 0, 0, ()), 0, (0, 0, ()), List.replicate 4 0, ())).1, a0.1.2.2.1, a2, ())).bind fun y1 =>
    bif y1.1 != 0 then
     (r21_done (a0, a1, (a0.2.2.1.getD a1.toNat ([], 0, (0, 0, 0, 0, ()), 0, (0, 0, ()), List.replicate 4 0, ())).1, y1.1, (0, 0, ()), ())).bind fun y2 =>
     some ((y2.1.1, y2.1.2.1, y2.1.2.2.1, y2.1.2.2.2), (y2.2.1.1, y2.2.1.2.1, y2.2.1.2.2.1, y2.2.1.2.2.2.1, ()), ())
    else
    (r21_begun (a0, a1, a2, ())).bind fun y3 =>
    some ((y3.1.1, y3.1.2.1, y3.1.2.2.1, y3.1.2.2.2), (y3.2.1.1, y3.2.1.2.1, y3.2.1.2.2.1, y3.2.1.2.2.2.1, ()), ())
   else
   bif (a0.2.2.1.getD a1.toNat ([], 0, (0, 0, 0, 0, ()), 0, (0, 0, ()), List.replicate 4 0, ())).2.1 == 1 then
    (r20_Caches (a0, ())).bind fun y4 =>
    (r11_Take (a0.2.1, y4.1, a1, (a0.2.2.1.getD a1.toNat ([], 0, (0, 0, 0, 0, ()), 0, (0, 0, ()), List.replicate 4 0, ())).2.2.1.2.1, ())).bind fun y5 =>
    bif y5.2.2.2.1 then
     bif decide (0 ≤ a1) then
      bif decide (a1 < (y5.2.1.length : Int)) then
       (r21_with ((a0.1, y5.1, a0.2.2), a1, ((a0.2.2.1.getD a1.toNat ([], 0, (0, 0, 0, 0, ()), 0, (0, 0, ()), List.replicate 4 0, ())).1, 2, (a0.2.2.1.getD a1.toNat ([], 0, (0, 0, 0, 0, ()), 0, (0, 0, ()), List.replicate 4 0, ())).2.2.1, y5.2.2.1, (a0.2.2.1.getD a1.toNat ([], 0, (0, 0, 0, 0, ()), 0, (0, 0, ()), List.replicate 4 0, ())).2.2.2.2.1, y5.2.1.getD a1.toNat (List.replicate 4 0), (a0.2.2.1.getD a1.toNat ([], 0, (0, 0, 0, 0, ()), 0, (0, 0, ()), List.replicate 4 0, ())).2.2.2.2.2.2), ())).bind fun y6 =>
       some ((y6.1.1, y6.1.2.1, y6.1.2.2.1, y6.1.2.2.2), (a1, 1, 0, (0, 0, ()), ()), ())
      else none
     else none
    else
    bif a0.2.2.2.2.1 == 2 then
     (r20_Sweeper (a0, ())).bind fun y7 =>
     some (y7.1, (a1, 1, 0, (0, 0, ()), ()), ())
    else
    (r21_done ((a0.1, a0.2.1, a0.2.2.1, a0.2.2.2.1, a0.2.2.2.2.1, true, a0.2.2.2.2.2.2), a1, (a0.2.2.1.getD a1.toNat ([], 0, (0, 0, 0, 0, ()), 0, (0, 0, ()), List.replicate 4 0, ())).1, 6, (0, 0, ()), ())).bind fun y8 =>
    some ((y8.1.1, y8.1.2.1, y8.1.2.2.1, y8.1.2.2.2), (y8.2.1.1, y8.2.1.2.1, y8.2.1.2.2.1, y8.2.1.2.2.2.1, ()), ())
   else
   bif (a0.2.2.1.getD a1.toNat ([], 0, (0, 0, 0, 0, ()), 0, (0, 0, ()), List.replicate 4 0, ())).2.1 == 2 then
    (r21_pushed (a0, a1, (2, (a0.2.2.1.getD a1.toNat ([], 0, (0, 0, 0, 0, ()), 0, (0, 0, ()), List.replicate 4 0, ())).2.2.2.1, ()), ())).bind fun y9 =>
    some ((y9.1.1, y9.1.2.1, y9.1.2.2.1, y9.1.2.2.2), (y9.2.1.1, y9.2.1.2.1, y9.2.1.2.2.1, y9.2.1.2.2.2.1, ()), ())
   else
   bif (a0.2.2.1.getD a1.toNat ([], 0, (0, 0, 0, 0, ()), 0, (0, 0, ()), List.replicate 4 0, ())).2.1 == 3 then
    (r21_pushed (a0, a1, (a0.2.2.1.getD a1.toNat ([], 0, (0, 0, 0, 0, ()), 0, (0, 0, ()), List.replicate 4 0, ())).2.2.2.2.1, ())).bind fun y10 =>
    some ((y10.1.1, y10.1.2.1, y10.1.2.2.1, y10.1.2.2.2), (y10.2.1.1, y10.2.1.2.1, y10.2.1.2.2.1, y10.2.1.2.2.2.1, ()), ())
   else
   (r08_Set (a0.2.1, (a0.2.2.1.getD a1.toNat ([], 0, (0, 0, 0, 0, ()), 0, (0, 0, ()), List.replicate 4 0, ())).2.2.2.1, (a0.2.2.1.getD a1.toNat ([], 0, (0, 0, 0, 0, ()), 0, (0, 0, ()), List.replicate 4 0, ())).2.2.1.2.2.1, (a0.2.2.1.getD a1.toNat ([], 0, (0, 0, 0, 0, ()), 0, (0, 0, ()), List.replicate 4 0, ())).2.2.2.2.1, ())).bind fun y11 =>
   (r21_done ((a0.1, y11.1, a0.2.2), a1, (a0.2.2.1.getD a1.toNat ([], 0, (0, 0, 0, 0, ()), 0, (0, 0, ()), List.replicate 4 0, ())).1, 0, (0, 0, ()), ())).bind fun y12 =>
   some ((y12.1.1, y12.1.2.1, y12.1.2.2.1, y12.1.2.2.2), (y12.2.1.1, y12.2.1.2.1, y12.2.1.2.2.1, y12.2.1.2.2.2.1, ()), ())
  else none
 else none
def r21_Turn (x : Wrld × Int × (Int × Int × Val) × Unit) : Option (Wrld × (Int × Int × Int × Val × Unit) × Unit) := r21_Turn_r x.1 x.2.1 x.2.2.1
def r21_Turn_sm : Sum := ⟨(.cons cWrld (.cons cI (.cons (.cons cI (.cons cI cVal)) .nil))), (.cons (.d cWrld) (.cons (.cons (.d cI) (.cons (.d cI) (.cons (.d cI) (.cons (.d cVal) .nil)))) .nil)), r21_Turn⟩
def r21_Turn_c : Ctx := ⟨[(45, r19_Check_sm), (46, r21_done_sm), (47, r21_begun_sm), (48, r11_Take_sm), (49, r20_Caches_sm), (50, r21_with_sm), (51, r20_Sweeper_sm), (52, r21_pushed_sm), (53, r08_Set_sm)], [], []⟩
theorem r21_Turn_sem : SemOf Tryz.prog 15 r21_Turn_sm := semC (c := r21_Turn_c) Tryz.func15 (sc r19_Check_sem (sc r21_done_sem (sc r21_begun_sem (sc r11_Take_sem (sc r20_Caches_sem (sc r21_with_sem (sc r20_Sweeper_sem (sc r21_pushed_sem (sc r08_Set_sem an))))))))) an an 8
def w21_MutKeeps_r (a0 : Wrld) (a1 : Int) (a2 : Int × Int × Val) : Option (Bool × Unit) :=
 (w21_awake ()).bind fun y1 =>
 bif !y1.1 then
  (w21_awake ()).bind fun y2 =>
  some (y2.1, ())
 else
 (w21_fits (a0, a1, ())).bind fun y3 =>
 bif !y3.1 then
  (w21_awake ()).bind fun y4 =>
  some (y4.1, ())
 else
 (r20_Copied (a0, ())).bind fun y5 =>
 (mut_Turn ((y5.1.1, (y5.1.2.1.1, y5.1.2.1.2.1, y5.1.2.1.2.2), y5.1.2.2.1, ((y5.1.2.2.2.1.1.1, y5.1.2.2.2.1.1.2.1, y5.1.2.2.2.1.1.2.2), y5.1.2.2.2.1.2.1, y5.1.2.2.2.1.2.2.1, y5.1.2.2.2.1.2.2.2), y5.1.2.2.2.2.1, y5.1.2.2.2.2.2.1, y5.1.2.2.2.2.2.2.1, y5.1.2.2.2.2.2.2.2.1, y5.1.2.2.2.2.2.2.2.2), a1, a2, ())).bind fun y6 =>
 (r20_Same ((y5.1.1, (y5.1.2.1.1, y5.1.2.1.2.1, y5.1.2.1.2.2), y5.1.2.2.1, ((y5.1.2.2.2.1.1.1, y5.1.2.2.2.1.1.2.1, y5.1.2.2.2.1.1.2.2), y5.1.2.2.2.1.2.1, y5.1.2.2.2.1.2.2.1, y5.1.2.2.2.1.2.2.2), y5.1.2.2.2.2.1, y5.1.2.2.2.2.2.1, y5.1.2.2.2.2.2.2.1, y5.1.2.2.2.2.2.2.2.1, y5.1.2.2.2.2.2.2.2.2), a0, ())).bind fun y7 =>
 bif !y7.1 then
  some (false, ())
 else
 (r21_Turn (a0, a1, a2, ())).bind fun y8 =>
 (r20_Same ((y6.1.1, y6.1.2.1, y6.1.2.2.1, y6.1.2.2.2), y8.1, ())).bind fun y9 =>
 bif y9.1 then
  some ((y6.2.1.1 == y8.2.1.1) && ((y6.2.1.2.1 == y8.2.1.2.1) && ((y6.2.1.2.2.1 == y8.2.1.2.2.1) && (((y6.2.1.2.2.2.1.1 == y8.2.1.2.2.2.1.1) && ((y6.2.1.2.2.2.1.2.1 == y8.2.1.2.2.2.1.2.1) && true)) && true))), ())
 else
 some (false, ())
def w21_MutKeeps (x : Wrld × Int × (Int × Int × Val) × Unit) : Option (Bool × Unit) := w21_MutKeeps_r x.1 x.2.1 x.2.2.1
def w21_MutKeeps_sm : Sum := ⟨(.cons cWrld (.cons cI (.cons (.cons cI (.cons cI cVal)) .nil))), (.cons (.d .bool) .nil), w21_MutKeeps⟩
def w21_MutKeeps_c : Ctx := ⟨[(10, w21_awake_sm), (11, w21_fits_sm), (12, r20_Copied_sm), (13, mut_Turn_sm), (14, r20_Same_sm), (15, r21_Turn_sm)], [], []⟩
theorem w21_MutKeeps_sem : SemOf Tryz.prog 3 w21_MutKeeps_sm := semC (c := w21_MutKeeps_c) Tryz.func3 (sc w21_awake_sem (sc w21_fits_sem (sc r20_Copied_sem (sc mut_Turn_sem (sc r20_Same_sem (sc r21_Turn_sem an)))))) an an 8
end
end Go.Proofs.YtkjpakaidjpjgaaGreatDoor.Dfn
