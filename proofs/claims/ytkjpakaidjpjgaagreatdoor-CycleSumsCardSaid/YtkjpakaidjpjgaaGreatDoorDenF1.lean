/- What functions come to. Printed by a program of this session. -/
import Derived.Test.YtkjpakaidjpjgaaGreatDoorDenF0
namespace Go.Proofs.YtkjpakaidjpjgaaGreatDoor.Den
open Go
set_option maxRecDepth 100000
set_option linter.unusedVariables false
noncomputable section
def slices_Contains_r (a0 : List Int) (a1 : Int) : Option (Bool × Unit) :=
 (slices_Index (a0, a1, ())).bind fun y1 =>
 some (decide (y1.1 ≥ 0), ())
def slices_Contains (x : (List Int) × Int × Unit) : Option (Bool × Unit) := slices_Contains_r x.1 x.2.1
def slices_Contains_sm : Sum := ⟨(.cons (.sl cI) (.cons cI .nil)), (.cons (.d .bool) .nil), slices_Contains⟩
def slices_Contains_c : Ctx := ⟨[(269, slices_Index_sm)], [], []⟩
theorem slices_Contains_sem : SemOf Tryz.prog 212 slices_Contains_sm := semC (c := slices_Contains_c) Tryz.func212 (sc slices_Index_sem an) an an 8
abbrev take_Kept_h0 : U := (.cons (.sl (.arr 4 cI)) (.cons cI cVal))
abbrev take_Kept_o0 : U := .nil
abbrev take_Kept_e0 : U := (.cons cI .nil)
def take_Kept_s0r (v0 : List (List Int)) (v7 : Int) (v8 : Int) (c0 : Int) : Option (SRes take_Kept_h0 take_Kept_o0 take_Kept_e0) :=
 bif decide (v8 < v7) then
  bif decide (0 ≤ v8) then
   bif decide (v8 < (v0.length : Int)) then
    (slices_Contains (v0.getD v8.toNat (List.replicate 4 0), c0, ())).bind fun y1 =>
    bif y1.1 then
     some (.fin (.ret (v8, ())))
    else
    some (.next (v0, v7, wi64 (v8 + 1), c0, ()))
   else none
  else none
 else
 some (.fin (.out ()))
def take_Kept_s0 (x : take_Kept_h0.T) : Option (SRes take_Kept_h0 take_Kept_o0 take_Kept_e0) := take_Kept_s0r x.1 x.2.1 x.2.2.1 x.2.2.2.1
def take_Kept_l0 (x : take_Kept_h0.T) : Option (LRes take_Kept_o0 take_Kept_e0) := iterL take_Kept_s0 9223372036854775808 x
def take_Kept_r (a0 : List (List Int)) (a1 : Int) : Option (Bool × Unit) :=
 bif decide (a1 ≥ 0) then
  (take_Kept_l0 (a0, (a0.length : Int), 0, a1, ())).bind fun s2 => match s2 with
  | .out s2 =>
   some (false, ())
  | .ret s2 =>
   some (decide (s2.1 ≥ 0), ())
 else
 some (false, ())
def take_Kept (x : (List (List Int)) × Int × Unit) : Option (Bool × Unit) := take_Kept_r x.1 x.2.1
def take_Kept_sm : Sum := ⟨(.cons (.sl (.arr 4 cI)) (.cons cI .nil)), (.cons (.d .bool) .nil), take_Kept⟩
def take_Kept_L0 : LoopSum := { hc := ⟨[], [0, 1, 7, 8], [], [], [0], [], 320⟩, h := ⟨[(0, (.d (.sl (.arr 4 cI)))), (1, (.fn 234 .nil (.cons (.pvar 0 []) .nil))), (7, (.d cI)), (8, (.d cI))], [(0, (.d cI))], [], 320⟩, xid := 0, oc := ⟨[], [], [], [], [], [], 320⟩, o := ⟨[], [], [], 320⟩, rc := ⟨[], [4], [], [], [], [], 320⟩, r := ⟨[(4, (.d cI))], [], [], 320⟩, F := take_Kept_l0 }
def take_Kept_c : Ctx := ⟨[(212, slices_Contains_sm)], [(233, Tryz.f233), (234, Tryz.f234), (290, Tryz.f290)], [⟨6, 290, 256, 0, take_Kept_L0⟩]⟩
theorem take_Kept_sem : SemOf Tryz.prog 167 take_Kept_sm := semC (c := take_Kept_c) Tryz.func167 (sc slices_Contains_sem an) (fc (flC Tryz.func233) (fc (flC Tryz.func234) (fc (flC Tryz.func290) an))) (ec (aeC [true, false, true, false, false] take_Kept_s0 Tryz.func290) an) 8
def heap_Close_1_r (a0 : Span) : Option (Span × Bool × Unit) :=
 (span_Empty (a0, ())).bind fun y1 =>
 some ((0, 0, 0, ()), y1.1, ())
def heap_Close_1 (x : Span × Unit) : Option (Span × Bool × Unit) := heap_Close_1_r x.1
def heap_Close_1_sm : Sum := ⟨(.cons cSpan .nil), (.cons (.cons (.d cI) (.cons (.d cI) (.cons (.d (.int .u32)) .nil))) (.cons (.d .bool) .nil)), heap_Close_1⟩
def heap_Close_1_c : Ctx := ⟨[(166, span_Empty_sm)], [], []⟩
theorem heap_Close_1_sem : SemOf Tryz.prog 235 heap_Close_1_sm := semC (c := heap_Close_1_c) Tryz.func235 (sc span_Empty_sem an) an an 8
abbrev sweep_One_h0 : U := (.cons (.sl cSpan) (.cons cI (.cons cI (.cons cHeap (.cons (.cons .bool .nil) .nil)))))
abbrev sweep_One_o0 : U := (.cons cHeap (.cons (.cons .bool .nil) .nil))
abbrev sweep_One_e0 : U := (.cons cI (.cons cHeap (.cons (.cons .bool .nil) .nil)))
def sweep_One_s0r (v0 : List Span) (v7 : Int) (v8 : Int) (c0 : Heap) (c16 : Bool × Unit) : Option (SRes sweep_One_h0 sweep_One_o0 sweep_One_e0) :=
 bif decide (v8 < v7) then
  bif decide (0 ≤ v8) then
   bif decide (v8 < (v0.length : Int)) then
    (sweep_dirty (v0.getD v8.toNat (0, 0, 0, ()), ())).bind fun y1 =>
    bif y1.1 then
     some (.fin (.ret (v8, c0, c16, ())))
    else
    some (.next (v0, v7, wi64 (v8 + 1), c0, c16, ()))
   else none
  else none
 else
 some (.fin (.out (c0, c16, ())))
def sweep_One_s0 (x : sweep_One_h0.T) : Option (SRes sweep_One_h0 sweep_One_o0 sweep_One_e0) := sweep_One_s0r x.1 x.2.1 x.2.2.1 x.2.2.2.1 x.2.2.2.2.1
def sweep_One_l0 (x : sweep_One_h0.T) : Option (LRes sweep_One_o0 sweep_One_e0) := iterL sweep_One_s0 9223372036854775808 x
abbrev sweep_One_h1 : U := (.cons (.sl (.arr 4 cI)) (.cons cI (.cons cI (.cons cI (.cons cI (.cons cI (.cons (.cons .bool .nil) (.cons (.cons .bool .nil) (.cons (.sl (.int .u64)) (.cons (.sl cSpan) .nil))))))))))
abbrev sweep_One_o1 : U := (.cons (.sl (.arr 4 cI)) (.cons cI (.cons cI (.cons (.cons .bool .nil) (.cons (.cons .bool .nil) (.cons (.sl (.int .u64)) (.cons (.sl cSpan) .nil)))))))
abbrev sweep_One_e1 : U := .nil
def sweep_One_s1r (v1 : List (List Int)) (v8 : Int) (v9 : Int) (v11 : Int) (v37 : Int) (v38 : Int) (c16 : Bool × Unit) (c384 : Bool × Unit) (r560 : List Int) (r561 : List Span) : Option (SRes sweep_One_h1 sweep_One_o1 sweep_One_e1) :=
 bif decide (v38 < v37) then
  (class_Words (v9, ())).bind fun y6 =>
  (object_Get ((r560, r561, c384), wi64 ((wi64 (v8 * 32)) + (wi64 (v38 * y6.1))), ())).bind fun y7 =>
  bif !y7.2.1 then
   some (.next (v1, v8, v9, v11, v37, wi64 (v38 + 1), c16, c384, r560, r561, ()))
  else
  (object_Black ((r560, r561, c384), wi64 ((wi64 (v8 * 32)) + (wi64 (v38 * y6.1))), ())).bind fun y8 =>
  bif y8.1 then
   some (.next (v1, v8, v9, v11, v37, wi64 (v38 + 1), c16, c384, r560, r561, ()))
  else
  (heap_Find ((r560, r561, c384), wi64 ((wi64 (v8 * 32)) + (wi64 (v38 * y6.1))), ())).bind fun y9 =>
  bif !y9.2.2.1 then
   some (.next (v1, v8, v9, v11, v37, wi64 (v38 + 1), c16, c384, r560, r561, ()))
  else
  (heap_page ((r560, r561, c384), y9.1, ())).bind fun y10 =>
  bif !y10.2.1 then
   some (.next (v1, v8, v9, v11, v37, wi64 (v38 + 1), c16, c384, r560, r561, ()))
  else
  (span_Give (y10.1, y9.2.1, ())).bind fun y11 =>
  bif !y11.2.1 then
   some (.next (v1, v8, v9, v11, v37, wi64 (v38 + 1), c16, c384, r560, r561, ()))
  else
  (slices_Clone_uint64 (r560, ())).bind fun y12 =>
  (slices_Clone_api_Span (r561, ())).bind fun y13 =>
  bif decide (0 ≤ y9.1) then
   bif decide (y9.1 < (y13.1.length : Int)) then
    bif decide (0 ≤ y9.1) then
     bif decide (y9.1 < (r561.length : Int)) then
      (class_Words ((r561.getD y9.1.toNat (0, 0, 0, ())).2.1, ())).bind fun y14 =>
      bif decide (0 ≤ (wi64 ((wi64 (v8 * 32)) + (wi64 (v38 * y6.1))))) then
       bif decide ((wi64 ((wi64 (v8 * 32)) + (wi64 (v38 * y6.1)))) ≤ (wi64 ((wi64 ((wi64 (v8 * 32)) + (wi64 (v38 * y6.1)))) + y14.1))) then
        bif decide ((wi64 ((wi64 ((wi64 (v8 * 32)) + (wi64 (v38 * y6.1)))) + y14.1)) ≤ (y12.1.length : Int)) then
         (class_Words (v9, ())).bind fun y15 =>
         some (.next (v1, v8, v9, wi64 (v11 + y15.1), v37, wi64 (v38 + 1), c16, c384, segSet y12.1 (wi64 ((wi64 (v8 * 32)) + (wi64 (v38 * y6.1)))).toNat (List.replicate ((wi64 ((wi64 ((wi64 (v8 * 32)) + (wi64 (v38 * y6.1)))) + y14.1)).toNat - (wi64 ((wi64 (v8 * 32)) + (wi64 (v38 * y6.1)))).toNat) 0), y13.1.set y9.1.toNat y11.1, ()))
        else none
       else none
      else none
     else none
    else none
   else none
  else none
 else
 some (.fin (.out (v1, v8, v11, c16, c384, r560, r561, ())))
def sweep_One_s1 (x : sweep_One_h1.T) : Option (SRes sweep_One_h1 sweep_One_o1 sweep_One_e1) := sweep_One_s1r x.1 x.2.1 x.2.2.1 x.2.2.2.1 x.2.2.2.2.1 x.2.2.2.2.2.1 x.2.2.2.2.2.2.1 x.2.2.2.2.2.2.2.1 x.2.2.2.2.2.2.2.2.1 x.2.2.2.2.2.2.2.2.2.1
def sweep_One_l1 (x : sweep_One_h1.T) : Option (LRes sweep_One_o1 sweep_One_e1) := iterL sweep_One_s1 9223372036854775808 x
def sweep_One_r (a0 : Heap) (a1 : List (List Int)) : Option (Heap × Int × Int × Bool × Unit) :=
 (sweep_One_l0 (a0.2.1, (a0.2.1.length : Int), 0, a0, (false, ()), ())).bind fun s2 => match s2 with
 | .out s2 =>
  some (s2.1, 0, 0, false, ())
 | .ret s2 =>
  bif decide (s2.1 < 0) then
   some (s2.2.1, 0, 0, false, ())
  else
  bif decide (0 ≤ s2.1) then
   bif decide (s2.1 < (s2.2.1.2.1.length : Int)) then
    (sweep_Begin (s2.2.1, ())).bind fun y3 =>
    (slices_Clone_api_Span (s2.2.1.2.1, ())).bind fun y4 =>
    (class_Blocks ((s2.2.1.2.1.getD s2.1.toNat (0, 0, 0, ())).2.1, ())).bind fun y5 =>
    (sweep_One_l1 (a1, s2.1, (s2.2.1.2.1.getD s2.1.toNat (0, 0, 0, ())).2.1, 0, y5.1, 0, s2.2.2.1, y3.1.2.2, y3.1.1, y4.1, ())).bind fun s16 => match s16 with
    | .out s16 =>
     bif decide (0 ≤ s16.2.1) then
      bif decide (s16.2.1 < (s16.2.2.2.2.2.2.1.length : Int)) then
       bif decide (0 ≤ s16.2.1) then
        bif decide (s16.2.1 < ((s16.2.2.2.2.2.2.1.set s16.2.1.toNat (1, (s16.2.2.2.2.2.2.1.getD s16.2.1.toNat (0, 0, 0, ())).2)).length : Int)) then
         (span_Empty ((s16.2.2.2.2.2.2.1.set s16.2.1.toNat (1, (s16.2.2.2.2.2.2.1.getD s16.2.1.toNat (0, 0, 0, ())).2)).getD s16.2.1.toNat (0, 0, 0, ()), ())).bind fun y17 =>
         bif y17.1 then
          (take_Kept (s16.1, s16.2.1, ())).bind fun y18 =>
          bif !y18.1 then
           (heap_page ((s16.2.2.2.2.2.1, s16.2.2.2.2.2.2.1.set s16.2.1.toNat (1, (s16.2.2.2.2.2.2.1.getD s16.2.1.toNat (0, 0, 0, ())).2), s16.2.2.2.2.1), s16.2.1, ())).bind fun y19 =>
           bif !y19.2.1 then
            some ((s16.2.2.2.2.2.1, s16.2.2.2.2.2.2.1.set s16.2.1.toNat (1, (s16.2.2.2.2.2.2.1.getD s16.2.1.toNat (0, 0, 0, ())).2), s16.2.2.2.2.1), s16.2.1, s16.2.2.1, true, ())
           else
           (heap_Close_1 (y19.1, ())).bind fun y20 =>
           bif !y20.2.1 then
            some ((s16.2.2.2.2.2.1, s16.2.2.2.2.2.2.1.set s16.2.1.toNat (1, (s16.2.2.2.2.2.2.1.getD s16.2.1.toNat (0, 0, 0, ())).2), s16.2.2.2.2.1), s16.2.1, s16.2.2.1, true, ())
           else
           (slices_Clone_uint64 (s16.2.2.2.2.2.1, ())).bind fun y21 =>
           (slices_Clone_api_Span (s16.2.2.2.2.2.2.1.set s16.2.1.toNat (1, (s16.2.2.2.2.2.2.1.getD s16.2.1.toNat (0, 0, 0, ())).2), ())).bind fun y22 =>
           bif decide (0 ≤ s16.2.1) then
            bif decide (s16.2.1 < (y22.1.length : Int)) then
             some ((y21.1, y22.1.set s16.2.1.toNat (y20.1.1, y20.1.2.1, y20.1.2.2.1, ()), s16.2.2.2.2.1), s16.2.1, s16.2.2.1, true, ())
            else none
           else none
          else
          some ((s16.2.2.2.2.2.1, s16.2.2.2.2.2.2.1.set s16.2.1.toNat (1, (s16.2.2.2.2.2.2.1.getD s16.2.1.toNat (0, 0, 0, ())).2), s16.2.2.2.2.1), s16.2.1, s16.2.2.1, true, ())
         else
         some ((s16.2.2.2.2.2.1, s16.2.2.2.2.2.2.1.set s16.2.1.toNat (1, (s16.2.2.2.2.2.2.1.getD s16.2.1.toNat (0, 0, 0, ())).2), s16.2.2.2.2.1), s16.2.1, s16.2.2.1, true, ())
        else none
       else none
      else none
     else none
    | .ret s16 =>
     none
   else none
  else none
def sweep_One (x : Heap × (List (List Int)) × Unit) : Option (Heap × Int × Int × Bool × Unit) := sweep_One_r x.1 x.2.1
def sweep_One_sm : Sum := ⟨(.cons cHeap (.cons (.sl (.arr 4 cI)) .nil)), (.cons (.d cHeap) (.cons (.d cI) (.cons (.d cI) (.cons (.d .bool) .nil)))), sweep_One⟩
def sweep_One_L0 : LoopSum := { hc := ⟨[], [0, 1, 7, 8], [], [], [0, 16], [], 208⟩, h := ⟨[(0, (.d (.sl cSpan))), (1, (.fn 161 .nil .nil)), (7, (.d cI)), (8, (.d cI))], [(0, (.d cHeap)), (16, (.cons .nilsl (.cons .nilsl (.d (.cons .bool .nil)))))], [], 208⟩, xid := 0, oc := ⟨[], [], [], [], [0, 16], [], 208⟩, o := ⟨[], [(0, (.d cHeap)), (16, (.cons .nilsl (.cons .nilsl (.d (.cons .bool .nil)))))], [], 208⟩, rc := ⟨[], [4], [], [], [0, 16], [], 208⟩, r := ⟨[(4, (.d cI))], [(0, (.d cHeap)), (16, (.cons .nilsl (.cons .nilsl (.d (.cons .bool .nil)))))], [], 208⟩, F := sweep_One_l0 }
def sweep_One_L1 : LoopSum := { hc := ⟨[], [1, 4, 8, 9, 10, 11, 37, 38], [(.key 384 [.fld 0], (.int .u64)), (.key 384 [.fld 1], cSpan)], [], [16, 384], [], 560⟩, h := ⟨[(1, (.d (.sl (.arr 4 cI)))), (4, (.pvar 16 [])), (8, (.d cI)), (9, (.d cI)), (10, (.pvar 384 [])), (11, (.d cI)), (37, (.d cI)), (38, (.d cI))], [(16, (.cons .nilsl (.cons .nilsl (.d (.cons .bool .nil))))), (384, (.cons (.row 560) (.cons (.row 561) (.d (.cons .bool .nil)))))], [(560, (.int .u64), true), (561, cSpan, true)], 562⟩, xid := 0, oc := ⟨[], [1, 4, 8, 10, 11], [(.ptr 10 [.fld 0], (.int .u64)), (.ptr 10 [.fld 1], cSpan)], [], [16, 384], [], 560⟩, o := ⟨[(1, (.d (.sl (.arr 4 cI)))), (4, (.pvar 16 [])), (8, (.d cI)), (10, (.pvar 384 [])), (11, (.d cI))], [(16, (.cons .nilsl (.cons .nilsl (.d (.cons .bool .nil))))), (384, (.cons (.row 560) (.cons (.row 561) (.d (.cons .bool .nil)))))], [(560, (.int .u64), true), (561, cSpan, true)], 562⟩, rc := ⟨[], [], [], [], [560], [], 560⟩, r := ⟨[], [], [], 560⟩, F := sweep_One_l1 }
def sweep_One_c : Ctx := ⟨[(130, object_Get_sm), (136, object_Black_sm), (153, class_Words_sm), (161, sweep_dirty_sm), (162, sweep_Begin_sm), (163, slices_Clone_api_Span_sm), (164, class_Blocks_sm), (166, span_Empty_sm), (167, take_Kept_sm), (201, heap_Find_sm), (228, slices_Clone_uint64_sm), (231, span_Give_sm), (235, heap_Close_1_sm), (264, heap_page_sm)], [(160, Tryz.f160), (165, Tryz.f165), (168, Tryz.f168), (229, Tryz.f229), (230, Tryz.f230)], [⟨7, 160, 144, 0, sweep_One_L0⟩, ⟨8, 92, 0, 0, sweep_One_L1⟩]⟩
theorem sweep_One_sem : SemOf Tryz.prog 92 sweep_One_sm := semC (c := sweep_One_c) Tryz.func92 (sc object_Get_sem (sc object_Black_sem (sc class_Words_sem (sc sweep_dirty_sem (sc sweep_Begin_sem (sc slices_Clone_api_Span_sem (sc class_Blocks_sem (sc span_Empty_sem (sc take_Kept_sem (sc heap_Find_sem (sc slices_Clone_uint64_sem (sc span_Give_sem (sc heap_Close_1_sem (sc heap_page_sem an)))))))))))))) (fc (flC Tryz.func160) (fc (flC Tryz.func165) (fc (flC Tryz.func168) (fc (flC Tryz.func229) (fc (flC Tryz.func230) an))))) (ec (aeC [true, false, true, false, false] sweep_One_s0 Tryz.func160) (ec (aeC [true, false, true, true, true, true, true, true, true, false, true, false, false] sweep_One_s1 Tryz.func92) an)) 8
abbrev sweep_Dirty_h0 : U := (.cons cI (.cons (.sl cSpan) cVal))
abbrev sweep_Dirty_o0 : U := (.cons cI .nil)
abbrev sweep_Dirty_e0 : U := .nil
def sweep_Dirty_s0r (v3 : Int) (v7 : List Span) (v8 : Int) (v9 : Int) : Option (SRes sweep_Dirty_h0 sweep_Dirty_o0 sweep_Dirty_e0) :=
 bif decide (v9 < v8) then
  bif decide (0 ≤ v9) then
   bif decide (v9 < (v7.length : Int)) then
    (sweep_dirty (v7.getD v9.toNat (0, 0, 0, ()), ())).bind fun y1 =>
    bif y1.1 then
     some (.next (wi64 (v3 + 1), v7, v8, wi64 (v9 + 1), ()))
    else
    some (.next (v3, v7, v8, wi64 (v9 + 1), ()))
   else none
  else none
 else
 some (.fin (.out (v3, ())))
def sweep_Dirty_s0 (x : sweep_Dirty_h0.T) : Option (SRes sweep_Dirty_h0 sweep_Dirty_o0 sweep_Dirty_e0) := sweep_Dirty_s0r x.1 x.2.1 x.2.2.1 x.2.2.2.1
def sweep_Dirty_l0 (x : sweep_Dirty_h0.T) : Option (LRes sweep_Dirty_o0 sweep_Dirty_e0) := iterL sweep_Dirty_s0 9223372036854775808 x
def sweep_Dirty_r (a0 : Heap) : Option (Int × Unit) :=
 (sweep_Dirty_l0 (0, a0.2.1, (a0.2.1.length : Int), 0, ())).bind fun s2 => match s2 with
 | .out s2 =>
  some (s2.1, ())
 | .ret s2 =>
  none
def sweep_Dirty (x : Heap × Unit) : Option (Int × Unit) := sweep_Dirty_r x.1
def sweep_Dirty_sm : Sum := ⟨(.cons cHeap .nil), (.cons (.d cI) .nil), sweep_Dirty⟩
def sweep_Dirty_L0 : LoopSum := { hc := ⟨[], [3, 7, 8, 9], [], [], [], [], 112⟩, h := ⟨[(3, (.d cI)), (7, (.d (.sl cSpan))), (8, (.d cI)), (9, (.d cI))], [], [], 112⟩, xid := 0, oc := ⟨[], [3], [], [], [], [], 112⟩, o := ⟨[(3, (.d cI))], [], [], 112⟩, rc := ⟨[], [], [], [], [112], [], 112⟩, r := ⟨[], [], [], 112⟩, F := sweep_Dirty_l0 }
def sweep_Dirty_c : Ctx := ⟨[(161, sweep_dirty_sm)], [], [⟨8, 93, 0, 0, sweep_Dirty_L0⟩]⟩
theorem sweep_Dirty_sem : SemOf Tryz.prog 93 sweep_Dirty_sm := semC (c := sweep_Dirty_c) Tryz.func93 (sc sweep_dirty_sem an) an (ec (aeC [true, true, false, true, false, false] sweep_Dirty_s0 Tryz.func93) an) 8
def cycle_Sweeper_r (a0 : Wrld) : Option (Wrld × Int × Unit) :=
 bif a0.2.2.2.2.1 != 2 then
  some (a0, 0, ())
 else
 (cycle_Caches (a0, ())).bind fun y1 =>
 (sweep_One (a0.2.1, y1.1, ())).bind fun y2 =>
 bif y2.2.2.2.1 then
  (sweep_Dirty (y2.1, ())).bind fun y3 =>
  bif decide (y3.1 > 0) then
   some ((a0.1, y2.1, a0.2.2), 1, ())
  else
  some ((a0.1, y2.1, a0.2.2.1, a0.2.2.2.1, 0, a0.2.2.2.2.2), 5, ())
 else
 (sweep_Dirty (a0.2.1, ())).bind fun y4 =>
 bif decide (y4.1 > 0) then
  some (a0, 1, ())
 else
 some ((a0.1, a0.2.1, a0.2.2.1, a0.2.2.2.1, 0, a0.2.2.2.2.2), 5, ())
def cycle_Sweeper (x : Wrld × Unit) : Option (Wrld × Int × Unit) := cycle_Sweeper_r x.1
def cycle_Sweeper_sm : Sum := ⟨(.cons cWrld .nil), (.cons (.d cWrld) (.cons (.d cI) .nil)), cycle_Sweeper⟩
def cycle_Sweeper_c : Ctx := ⟨[(75, cycle_Caches_sm), (92, sweep_One_sm), (93, sweep_Dirty_sm)], [], []⟩
theorem cycle_Sweeper_sem : SemOf Tryz.prog 31 cycle_Sweeper_sm := semC (c := cycle_Sweeper_c) Tryz.func31 (sc cycle_Caches_sem (sc sweep_One_sem (sc sweep_Dirty_sem an))) an an 8
def snap_list_r (a0 : List Val) : Option ((List Val) × Unit) :=
 some (a0, ())
def snap_list (x : (List Val) × Unit) : Option ((List Val) × Unit) := snap_list_r x.1
def snap_list_sm : Sum := ⟨(.cons (.sl cVal) .nil), (.cons (.d (.sl cVal)) .nil), snap_list⟩
def snap_list_c : Ctx := ⟨[], [], []⟩
theorem snap_list_sem : SemOf Tryz.prog 227 snap_list_sm := semC (c := snap_list_c) Tryz.func227 an an an 8
def snap_Registers_r (a0 : Mut) : Option ((List Val) × Unit) :=
 bif a0.2.1 == 2 then
  (snap_list ([(2, a0.2.2.2.1, ())], ())).bind fun y1 =>
  some (y1.1, ())
 else
 bif a0.2.1 == 3 then
  (snap_list ([a0.2.2.2.2.1], ())).bind fun y2 =>
  some (y2.1, ())
 else
 bif a0.2.1 == 4 then
  (snap_list ([(2, a0.2.2.2.1, ()), a0.2.2.2.2.1], ())).bind fun y3 =>
  some (y3.1, ())
 else
 some ([], ())
def snap_Registers (x : Mut × Unit) : Option ((List Val) × Unit) := snap_Registers_r x.1
def snap_Registers_sm : Sum := ⟨(.cons cMut .nil), (.cons (.d (.sl cVal)) .nil), snap_Registers⟩
def snap_Registers_c : Ctx := ⟨[(227, snap_list_sm)], [], []⟩
theorem snap_Registers_sem : SemOf Tryz.prog 158 snap_Registers_sm := semC (c := snap_Registers_c) Tryz.func158 (sc snap_list_sem an) an an 8
abbrev snap_Held_h0 : U := (.cons (.sl cMut) (.cons cI (.cons cI (.cons (.sl cVal) .nil))))
abbrev snap_Held_o0 : U := (.cons (.sl cVal) .nil)
abbrev snap_Held_e0 : U := .nil
def snap_Held_s0r (v6 : List Mut) (v7 : Int) (v8 : Int) (r80 : List Val) : Option (SRes snap_Held_h0 snap_Held_o0 snap_Held_e0) :=
 bif decide (v8 < v7) then
  bif decide (0 ≤ v8) then
   bif decide (v8 < (v6.length : Int)) then
    bif decide ((r80.length + (v6.getD v8.toNat ([], 0, (0, 0, 0, 0, ()), 0, (0, 0, ()), List.replicate 4 0, ())).1.length) * 16 ≤ 140737488355328) then
     (snap_Registers (v6.getD v8.toNat ([], 0, (0, 0, 0, 0, ()), 0, (0, 0, ()), List.replicate 4 0, ()), ())).bind fun y1 =>
     bif decide (((r80 ++ (v6.getD v8.toNat ([], 0, (0, 0, 0, 0, ()), 0, (0, 0, ()), List.replicate 4 0, ())).1).length + y1.1.length) * 16 ≤ 140737488355328) then
      some (.next (v6, v7, wi64 (v8 + 1), (r80 ++ (v6.getD v8.toNat ([], 0, (0, 0, 0, 0, ()), 0, (0, 0, ()), List.replicate 4 0, ())).1) ++ y1.1, ()))
     else none
    else none
   else none
  else none
 else
 some (.fin (.out (r80, ())))
def snap_Held_s0 (x : snap_Held_h0.T) : Option (SRes snap_Held_h0 snap_Held_o0 snap_Held_e0) := snap_Held_s0r x.1 x.2.1 x.2.2.1 x.2.2.2.1
def snap_Held_l0 (x : snap_Held_h0.T) : Option (LRes snap_Held_o0 snap_Held_e0) := iterL snap_Held_s0 9223372036854775808 x
def snap_Held_r (a0 : List Mut) : Option ((List Val) × Unit) :=
 (snap_Held_l0 (a0, (a0.length : Int), 0, [], ())).bind fun s2 => match s2 with
 | .out s2 =>
  some (s2.1, ())
 | .ret s2 =>
  none
def snap_Held (x : (List Mut) × Unit) : Option ((List Val) × Unit) := snap_Held_r x.1
def snap_Held_sm : Sum := ⟨(.cons (.sl cMut) .nil), (.cons (.own cVal) .nil), snap_Held⟩
def snap_Held_L0 : LoopSum := { hc := ⟨[], [3, 6, 7, 8], [(.tmp 3, cVal)], [], [], [], 80⟩, h := ⟨[(3, (.row 80)), (6, (.d (.sl cMut))), (7, (.d cI)), (8, (.d cI))], [], [(80, cVal, true)], 81⟩, xid := 0, oc := ⟨[], [3], [(.tmp 3, cVal)], [], [], [], 80⟩, o := ⟨[(3, (.row 80))], [], [(80, cVal, true)], 81⟩, rc := ⟨[], [], [], [], [80], [], 80⟩, r := ⟨[], [], [], 80⟩, F := snap_Held_l0 }
def snap_Held_c : Ctx := ⟨[(158, snap_Registers_sm)], [], [⟨8, 90, 0, 0, snap_Held_L0⟩]⟩
theorem snap_Held_sem : SemOf Tryz.prog 90 snap_Held_sm := semC (c := snap_Held_c) Tryz.func90 (sc snap_Registers_sem an) an (ec (aeC [true, true, false, true, false, false] snap_Held_s0 Tryz.func90) an) 8
def math_bits_Mul32_r (a0 : Int) (a1 : Int) : Option (Int × Int × Unit) :=
 some (wu32 (shiftI false .u64 (wu64 ((wu64 a0) * (wu64 a1))) 32), wu32 (wu64 ((wu64 a0) * (wu64 a1))), ())
def math_bits_Mul32 (x : Int × Int × Unit) : Option (Int × Int × Unit) := math_bits_Mul32_r x.1 x.2.1
def math_bits_Mul32_sm : Sum := ⟨(.cons (.int .u32) (.cons (.int .u32) .nil)), (.cons (.d (.int .u32)) (.cons (.d (.int .u32)) .nil)), math_bits_Mul32⟩
def math_bits_Mul32_c : Ctx := ⟨[], [], []⟩
theorem math_bits_Mul32_sem : SemOf Tryz.prog 340 math_bits_Mul32_sm := semC (c := math_bits_Mul32_c) Tryz.func340 an an an 8
def math_bits_Mul64_r (a0 : Int) (a1 : Int) : Option (Int × Int × Unit) :=
 some (wu64 ((wu64 ((wu64 ((shiftI false .u64 a0 32) * (shiftI false .u64 a1 32))) + (shiftI false .u64 (wu64 ((wu64 ((shiftI false .u64 a0 32) * (bitsI .and .u64 a1 4294967295))) + (shiftI false .u64 (wu64 ((bitsI .and .u64 a0 4294967295) * (bitsI .and .u64 a1 4294967295))) 32))) 32))) + (shiftI false .u64 (wu64 ((bitsI .and .u64 (wu64 ((wu64 ((shiftI false .u64 a0 32) * (bitsI .and .u64 a1 4294967295))) + (shiftI false .u64 (wu64 ((bitsI .and .u64 a0 4294967295) * (bitsI .and .u64 a1 4294967295))) 32))) 4294967295) + (wu64 ((bitsI .and .u64 a0 4294967295) * (shiftI false .u64 a1 32))))) 32)), wu64 (a0 * a1), ())
def math_bits_Mul64 (x : Int × Int × Unit) : Option (Int × Int × Unit) := math_bits_Mul64_r x.1 x.2.1
def math_bits_Mul64_sm : Sum := ⟨(.cons (.int .u64) (.cons (.int .u64) .nil)), (.cons (.d (.int .u64)) (.cons (.d (.int .u64)) .nil)), math_bits_Mul64⟩
def math_bits_Mul64_c : Ctx := ⟨[], [], []⟩
theorem math_bits_Mul64_sem : SemOf Tryz.prog 341 math_bits_Mul64_sm := semC (c := math_bits_Mul64_c) Tryz.func341 an an an 8
def math_bits_Mul_r (a0 : Int) (a1 : Int) : Option (Int × Int × Unit) :=
 (math_bits_Mul64 (a0, a1, ())).bind fun y1 =>
 some (y1.1, y1.2.1, ())
def math_bits_Mul (x : Int × Int × Unit) : Option (Int × Int × Unit) := math_bits_Mul_r x.1 x.2.1
def math_bits_Mul_sm : Sum := ⟨(.cons (.int .u64) (.cons (.int .u64) .nil)), (.cons (.d (.int .u64)) (.cons (.d (.int .u64)) .nil)), math_bits_Mul⟩
def math_bits_Mul_c : Ctx := ⟨[(341, math_bits_Mul64_sm)], [], []⟩
theorem math_bits_Mul_sem : SemOf Tryz.prog 315 math_bits_Mul_sm := semC (c := math_bits_Mul_c) Tryz.func315 (sc math_bits_Mul64_sem an) an an 8
abbrev slices_Repeat_h0 : U := cGrey
abbrev slices_Repeat_o0 : U := (.cons (.sl cI) .nil)
abbrev slices_Repeat_e0 : U := .nil
def slices_Repeat_s0r (v8 : Int) (r352 : List Int) : Option (SRes slices_Repeat_h0 slices_Repeat_o0 slices_Repeat_e0) :=
 bif decide (v8 < (r352.length : Int)) then
  bif decide (0 ≤ v8) then
   bif decide (v8 ≤ (r352.length : Int)) then
    bif decide ((r352.length : Int) ≤ (r352.length : Int)) then
     bif decide (0 ≤ v8) then
      bif decide (v8 ≤ (r352.length : Int)) then
       some (.next (wi64 (v8 + ((((r352.drop 0).take (v8.toNat - 0)).take ((r352.length : Int).toNat - v8.toNat)).length : Int)), segSet r352 v8.toNat (((r352.drop 0).take (v8.toNat - 0)).take ((r352.length : Int).toNat - v8.toNat)), ()))
      else none
     else none
    else none
   else none
  else none
 else
 some (.fin (.out (r352, ())))
def slices_Repeat_s0 (x : slices_Repeat_h0.T) : Option (SRes slices_Repeat_h0 slices_Repeat_o0 slices_Repeat_e0) := slices_Repeat_s0r x.1 x.2.1
def slices_Repeat_l0 (x : slices_Repeat_h0.T) : Option (LRes slices_Repeat_o0 slices_Repeat_e0) := iterL slices_Repeat_s0 9223372036854775808 x
def slices_Repeat_r (a0 : List Int) (a1 : Int) : Option ((List Int) × Unit) :=
 bif decide (a1 < 0) then none else
 (math_bits_Mul (wu64 (a0.length : Int), wu64 a1, ())).bind fun y1 =>
 bif decide (y1.1 > 0) then none else
 bif decide (y1.2.1 > 9223372036854775807) then none else
 bif (wi64 y1.2.1) == (wi64 y1.2.1) then
  bif decide (0 ≤ (wi64 y1.2.1)) then
   bif decide ((wi64 y1.2.1).toNat * 8 ≤ 140737488355328) then
    (slices_Repeat_l0 (((a0.take (List.replicate (wi64 y1.2.1).toNat (0 : Int)).length).length : Int), segSet (List.replicate (wi64 y1.2.1).toNat (0 : Int)) 0 (a0.take (List.replicate (wi64 y1.2.1).toNat (0 : Int)).length), ())).bind fun s2 => match s2 with
    | .out s2 =>
     some (s2.1, ())
    | .ret s2 =>
     none
   else none
  else none
 else none
def slices_Repeat (x : (List Int) × Int × Unit) : Option ((List Int) × Unit) := slices_Repeat_r x.1 x.2.1
def slices_Repeat_sm : Sum := ⟨(.cons (.sl cI) (.cons cI .nil)), (.cons (.own cI) .nil), slices_Repeat⟩
def slices_Repeat_L0 : LoopSum := { hc := ⟨[], [7, 8], [], [], [], [352], 448⟩, h := ⟨[(7, (.row 352)), (8, (.d cI))], [], [(352, cI, true)], 448⟩, xid := 0, oc := ⟨[], [7], [], [], [], [352], 448⟩, o := ⟨[(7, (.row 352))], [], [(352, cI, true)], 448⟩, rc := ⟨[], [], [], [], [448], [], 448⟩, r := ⟨[], [], [], 448⟩, F := slices_Repeat_l0 }
def slices_Repeat_c : Ctx := ⟨[(315, math_bits_Mul_sm)], [], [⟨8, 272, 0, 0, slices_Repeat_L0⟩]⟩
theorem slices_Repeat_sem : SemOf Tryz.prog 272 slices_Repeat_sm := semC (c := slices_Repeat_c) Tryz.func272 (sc math_bits_Mul_sem an) an (ec (aeC [true, true, true, true, true, true, false, false, false] slices_Repeat_s0 Tryz.func272) an) 8
def grey_New_r (a0 : Int) : Option (Grey × Bool × Unit) :=
 bif decide (a0 < 0) then
  some ((0, [], ()), false, ())
 else
 bif decide (a0 > 16) then
  some ((0, [], ()), false, ())
 else
 some ((a0, [], ()), true, ())
def grey_New (x : Int × Unit) : Option (Grey × Bool × Unit) := grey_New_r x.1
def grey_New_sm : Sum := ⟨(.cons cI .nil), (.cons (.cons (.d cI) (.cons (.own cI) .nil)) (.cons (.d .bool) .nil)), grey_New⟩
def grey_New_c : Ctx := ⟨[], [], []⟩
theorem grey_New_sem : SemOf Tryz.prog 316 grey_New_sm := semC (c := grey_New_c) Tryz.func316 an an an 8
abbrev mark_New_h0 : U := (.cons (.sl cI) (.cons cI (.cons cI (.cons cI (.cons .nil (.cons (.cons cI (.cons cI (.cons cI (.cons .bool .nil)))) (.cons cI (.cons .nil (.cons (.cons cI (.cons cI (.cons cI (.cons .bool .nil)))) (.cons (.sl cVal) (.cons (.sl cI) (.cons (.sl cGrey) .nil))))))))))))
abbrev mark_New_o0 : U := (.cons cI (.cons .nil (.cons (.cons cI (.cons cI (.cons cI (.cons .bool .nil)))) (.cons cI (.cons .nil (.cons (.cons cI (.cons cI (.cons cI (.cons .bool .nil)))) (.cons (.sl cVal) (.cons (.sl cI) (.cons (.sl cGrey) .nil)))))))))
abbrev mark_New_e0 : U := (.cons .bool (.cons cI (.cons .nil (.cons (.cons cI (.cons cI (.cons cI (.cons .bool .nil)))) .nil))))
def mark_New_s0r (v28 : List Int) (v29 : Int) (v30 : Int) (c0_0 : Int) (c0_1 : Unit) (c0_2 : Int × Int × Int × Bool × Unit) (c80_0 : Int) (c80_1 : Unit) (c80_2 : Int × Int × Int × Bool × Unit) (r48 : List Val) (r128 : List Int) (r368 : List Grey) : Option (SRes mark_New_h0 mark_New_o0 mark_New_e0) :=
 bif decide (v30 < v29) then
  bif decide (0 ≤ v30) then
   bif decide (v30 < (v28.length : Int)) then
    (grey_New (v28.getD v30.toNat 0, ())).bind fun y3 =>
    bif !y3.2.1 then
     some (.fin (.ret (false, 0, (), (0, 0, 0, false, ()), ())))
    else
    bif decide ((r368.length + 1) * 32 ≤ 140737488355328) then
     some (.next (v28, v29, wi64 (v30 + 1), c0_0, c0_1, c0_2, c80_0, c80_1, c80_2, r48, r128, r368 ++ [(y3.1.1, y3.1.2.1, ())], ()))
    else none
   else none
  else none
 else
 some (.fin (.out (c0_0, c0_1, c0_2, c80_0, c80_1, c80_2, r48, r128, r368, ())))
def mark_New_s0 (x : mark_New_h0.T) : Option (SRes mark_New_h0 mark_New_o0 mark_New_e0) := mark_New_s0r x.1 x.2.1 x.2.2.1 x.2.2.2.1 x.2.2.2.2.1 x.2.2.2.2.2.1 x.2.2.2.2.2.2.1 x.2.2.2.2.2.2.2.1 x.2.2.2.2.2.2.2.2.1 x.2.2.2.2.2.2.2.2.2.1 x.2.2.2.2.2.2.2.2.2.2.1 x.2.2.2.2.2.2.2.2.2.2.2.1
def mark_New_l0 (x : mark_New_h0.T) : Option (LRes mark_New_o0 mark_New_e0) := iterL mark_New_s0 9223372036854775808 x
def mark_New_r (a0 : Int) (a1 : List Int) (a2 : List Val) : Option (Marker × Bool × Unit) :=
 (slices_Clone_api_Value (a2, ())).bind fun y1 =>
 (grey_New (a0, ())).bind fun y2 =>
 bif !y2.2.1 then
  some (((0, [], ()), [], [], 0, 0, 0, false, ()), false, ())
 else
 (mark_New_l0 (a1, (a1.length : Int), 0, 0, (), (0, 0, 0, false, ()), y2.1.1, (), ((-1), 0, (-1), false, ()), y1.1, y2.1.2.1, [], ())).bind fun s4 => match s4 with
 | .out s4 =>
  some (((s4.2.2.2.1, s4.2.2.2.2.2.2.2.1, s4.2.2.2.2.1), s4.2.2.2.2.2.2.2.2.1, s4.2.2.2.2.2.2.1, s4.2.2.2.2.2.1), true, ())
 | .ret s4 =>
  some (((s4.2.1, [], s4.2.2.1), [], [], s4.2.2.2.1), s4.1, ())
def mark_New (x : Int × (List Int) × (List Val) × Unit) : Option (Marker × Bool × Unit) := mark_New_r x.1 x.2.1 x.2.2.1
def mark_New_sm : Sum := ⟨(.cons cI (.cons (.sl cI) (.cons (.sl cVal) .nil))), (.cons (.cons (.cons (.d cI) (.cons (.own cI) (.d .nil))) (.cons (.own cGrey) (.cons (.own cVal) (.d (.cons cI (.cons cI (.cons cI (.cons .bool .nil)))))))) (.cons (.d .bool) .nil)), mark_New⟩
def mark_New_L0 : LoopSum := { hc := ⟨[], [6, 8, 28, 29, 30], [(.key 80 [.fld 1], cGrey)], [], [0, 80], [48, 128], 368⟩, h := ⟨[(6, (.pvar 0 [])), (8, (.pvar 80 [])), (28, (.d (.sl cI))), (29, (.d cI)), (30, (.d cI))], [(0, (.cons (.cons (.d cI) (.cons .nilsl (.d .nil))) (.cons .nilsl (.cons .nilsl (.d (.cons cI (.cons cI (.cons cI (.cons .bool .nil))))))))), (80, (.cons (.cons (.d cI) (.cons (.row 128) (.d .nil))) (.cons (.row 368) (.cons (.row 48) (.d (.cons cI (.cons cI (.cons cI (.cons .bool .nil)))))))))], [(48, cVal, true), (128, cI, true), (368, cGrey, true)], 369⟩, xid := 0, oc := ⟨[], [6, 8], [(.ptr 8 [.fld 1], cGrey)], [], [0, 80], [48, 128], 368⟩, o := ⟨[(6, (.pvar 0 [])), (8, (.pvar 80 []))], [(0, (.cons (.cons (.d cI) (.cons .nilsl (.d .nil))) (.cons .nilsl (.cons .nilsl (.d (.cons cI (.cons cI (.cons cI (.cons .bool .nil))))))))), (80, (.cons (.cons (.d cI) (.cons (.row 128) (.d .nil))) (.cons (.row 368) (.cons (.row 48) (.d (.cons cI (.cons cI (.cons cI (.cons .bool .nil)))))))))], [(48, cVal, true), (128, cI, true), (368, cGrey, true)], 369⟩, rc := ⟨[], [6, 7], [], [], [0], [], 368⟩, r := ⟨[(6, (.pvar 0 [])), (7, (.d .bool))], [(0, (.cons (.cons (.d cI) (.cons .nilsl (.d .nil))) (.cons .nilsl (.cons .nilsl (.d (.cons cI (.cons cI (.cons cI (.cons .bool .nil)))))))))], [], 368⟩, F := mark_New_l0 }
def mark_New_c : Ctx := ⟨[(174, slices_Clone_api_Value_sm), (316, grey_New_sm)], [], [⟨8, 273, 0, 0, mark_New_L0⟩]⟩
theorem mark_New_sem : SemOf Tryz.prog 273 mark_New_sm := semC (c := mark_New_c) Tryz.func273 (sc slices_Clone_api_Value_sem (sc grey_New_sem an)) an (ec (aeC [true, true, true, true, true, false, true, false, false] mark_New_s0 Tryz.func273) an) 8
abbrev slices_Concat_h0 : U := (.cons (.sl (.sl cVal)) (.cons cI (.cons (.sl (.sl cVal)) cVal)))
abbrev slices_Concat_o0 : U := (.cons (.sl (.sl cVal)) (.cons cI .nil))
abbrev slices_Concat_e0 : U := .nil
def slices_Concat_s0r (v0 : List (List Val)) (v3 : Int) (v9 : List (List Val)) (v10 : Int) (v11 : Int) : Option (SRes slices_Concat_h0 slices_Concat_o0 slices_Concat_e0) :=
 bif decide (v11 < v10) then
  bif decide (0 ≤ v11) then
   bif decide (v11 < (v9.length : Int)) then
    bif decide ((wi64 (v3 + ((v9.getD v11.toNat []).length : Int))) < 0) then none else
    some (.next (v0, wi64 (v3 + ((v9.getD v11.toNat []).length : Int)), v9, v10, wi64 (v11 + 1), ()))
   else none
  else none
 else
 some (.fin (.out (v0, v3, ())))
def slices_Concat_s0 (x : slices_Concat_h0.T) : Option (SRes slices_Concat_h0 slices_Concat_o0 slices_Concat_e0) := slices_Concat_s0r x.1 x.2.1 x.2.2.1 x.2.2.2.1 x.2.2.2.2.1
def slices_Concat_l0 (x : slices_Concat_h0.T) : Option (LRes slices_Concat_o0 slices_Concat_e0) := iterL slices_Concat_s0 9223372036854775808 x
abbrev slices_Concat_h1 : U := (.cons (.sl (.sl cVal)) (.cons cI (.cons cI (.cons (.sl cVal) .nil))))
abbrev slices_Concat_o1 : U := (.cons (.sl cVal) .nil)
abbrev slices_Concat_e1 : U := .nil
def slices_Concat_s1r (v25 : List (List Val)) (v26 : Int) (v27 : Int) (r576 : List Val) : Option (SRes slices_Concat_h1 slices_Concat_o1 slices_Concat_e1) :=
 bif decide (v27 < v26) then
  bif decide (0 ≤ v27) then
   bif decide (v27 < (v25.length : Int)) then
    bif decide ((r576.length + (v25.getD v27.toNat []).length) * 16 ≤ 140737488355328) then
     some (.next (v25, v26, wi64 (v27 + 1), r576 ++ (v25.getD v27.toNat []), ()))
    else none
   else none
  else none
 else
 some (.fin (.out (r576, ())))
def slices_Concat_s1 (x : slices_Concat_h1.T) : Option (SRes slices_Concat_h1 slices_Concat_o1 slices_Concat_e1) := slices_Concat_s1r x.1 x.2.1 x.2.2.1 x.2.2.2.1
def slices_Concat_l1 (x : slices_Concat_h1.T) : Option (LRes slices_Concat_o1 slices_Concat_e1) := iterL slices_Concat_s1 9223372036854775808 x
def slices_Concat_r (a0 : List (List Val)) : Option ((List Val) × Unit) :=
 (slices_Concat_l0 (a0, 0, a0, (a0.length : Int), 0, ())).bind fun s1 => match s1 with
 | .out s1 =>
  bif decide (s1.2.1 < 0) then none else
  bif decide ((wi64 (s1.2.1 - 0)) > 0) then
   bif decide (0 ≤ (wi64 (wi64 (s1.2.1 - 0)))) then
    bif decide ((wi64 (wi64 (s1.2.1 - 0))).toNat * 16 ≤ 140737488355328) then
     bif decide (0 ≤ ((List.replicate (wi64 (wi64 (s1.2.1 - 0))).toNat ((0, 0, ()) : Val)).length : Int)) then
      (slices_Concat_l1 (s1.1, (s1.1.length : Int), 0, ((List.replicate (wi64 (wi64 (s1.2.1 - 0))).toNat ((0, 0, ()) : Val)).drop 0).take 0, ())).bind fun s2 => match s2 with
      | .out s2 =>
       some (s2.1, ())
      | .ret s2 =>
       none
     else none
    else none
   else none
  else
  (slices_Concat_l1 (s1.1, (s1.1.length : Int), 0, [], ())).bind fun s3 => match s3 with
  | .out s3 =>
   some (s3.1, ())
  | .ret s3 =>
   none
 | .ret s1 =>
  none
def slices_Concat (x : (List (List Val)) × Unit) : Option ((List Val) × Unit) := slices_Concat_r x.1
def slices_Concat_sm : Sum := ⟨(.cons (.sl (.sl cVal)) .nil), (.cons (.own cVal) .nil), slices_Concat⟩
def slices_Concat_L0 : LoopSum := { hc := ⟨[], [0, 3, 9, 10, 11], [], [], [], [], 80⟩, h := ⟨[(0, (.d (.sl (.sl cVal)))), (3, (.d cI)), (9, (.d (.sl (.sl cVal)))), (10, (.d cI)), (11, (.d cI))], [], [], 80⟩, xid := 0, oc := ⟨[], [0, 3], [], [], [], [], 80⟩, o := ⟨[(0, (.d (.sl (.sl cVal)))), (3, (.d cI))], [], [], 80⟩, rc := ⟨[], [], [], [], [80], [], 80⟩, r := ⟨[], [], [], 80⟩, F := slices_Concat_l0 }
def slices_Concat_L1 : LoopSum := { hc := ⟨[], [6, 25, 26, 27], [(.tmp 6, cVal)], [], [], [], 576⟩, h := ⟨[(6, (.row 576)), (25, (.d (.sl (.sl cVal)))), (26, (.d cI)), (27, (.d cI))], [], [(576, cVal, true)], 577⟩, xid := 2, oc := ⟨[], [6], [(.tmp 6, cVal)], [], [], [], 576⟩, o := ⟨[(6, (.row 576))], [], [(576, cVal, true)], 577⟩, rc := ⟨[], [], [], [], [576], [], 576⟩, r := ⟨[], [], [], 576⟩, F := slices_Concat_l1 }
def slices_Concat_c : Ctx := ⟨[], [(317, Tryz.f317)], [⟨8, 274, 0, 0, slices_Concat_L0⟩, ⟨8, 274, 0, 2, slices_Concat_L1⟩]⟩
theorem slices_Concat_sem : SemOf Tryz.prog 274 slices_Concat_sm := semC (c := slices_Concat_c) Tryz.func274 an (fc (flC Tryz.func317) an) (ec (aeC [true, true, false, true, false, false] slices_Concat_s0 Tryz.func274) (ec (aeC [true, true, true, true, false, true, false, false] slices_Concat_s1 Tryz.func274) an)) 8
def object_place_r (a0 : Heap) (a1 : Int) (a2 : Int) : Option Val :=
 (object_Get (a0, a1, ())).bind fun y1 =>
 bif !y1.2.1 then
  some (0, 1, ())
 else
 bif decide (a2 < 0) then
  some (0, 4, ())
 else
 bif decide (a2 ≥ y1.1.2.2.2.1) then
  some (0, 4, ())
 else
 some (wi64 ((wi64 (a1 + 1)) + a2), 0, ())
def object_place (x : Heap × Val) : Option Val := object_place_r x.1 x.2.1 x.2.2.1
def object_place_sm : Sum := ⟨(.cons cHeap cVal), (.cons (.d cI) (.cons (.d cI) .nil)), object_place⟩
def object_place_c : Ctx := ⟨[(130, object_Get_sm)], [], []⟩
theorem object_place_sem : SemOf Tryz.prog 183 object_place_sm := semC (c := object_place_c) Tryz.func183 (sc object_Get_sem an) an an 8
def word_Get_r (a0 : Int) : Option (Val × Unit) :=
 bif a0 == 0 then
  some ((0, 0, ()), ())
 else
 bif (bitsI .and .u64 a0 1) == 1 then
  some ((1, wi64 (shiftI false .u64 a0 1), ()), ())
 else
 some ((2, wi64 ((wi64 (shiftI false .u64 a0 1)) - 1), ()), ())
def word_Get (x : Int × Unit) : Option (Val × Unit) := word_Get_r x.1
def word_Get_sm : Sum := ⟨(.cons (.int .u64) .nil), (.cons (.cons (.d cI) (.cons (.d cI) .nil)) .nil), word_Get⟩
def word_Get_c : Ctx := ⟨[], [], []⟩
theorem word_Get_sem : SemOf Tryz.prog 223 word_Get_sm := semC (c := word_Get_c) Tryz.func223 an an an 8
def object_Field_r (a0 : Heap) (a1 : Int) (a2 : Int) : Option (Val × Int × Unit) :=
 (object_place (a0, a1, a2, ())).bind fun y1 =>
 bif y1.2.1 != 0 then
  some ((0, 0, ()), y1.2.1, ())
 else
 bif decide (0 ≤ y1.1) then
  bif decide (y1.1 < (a0.1.length : Int)) then
   (word_Get (a0.1.getD y1.1.toNat 0, ())).bind fun y2 =>
   some ((y2.1.1, y2.1.2.1, ()), 0, ())
  else none
 else none
def object_Field (x : Heap × Val) : Option (Val × Int × Unit) := object_Field_r x.1 x.2.1 x.2.2.1
def object_Field_sm : Sum := ⟨(.cons cHeap cVal), (.cons (.cons (.d cI) (.cons (.d cI) .nil)) (.cons (.d cI) .nil)), object_Field⟩
def object_Field_c : Ctx := ⟨[(183, object_place_sm), (223, word_Get_sm)], [], []⟩
theorem object_Field_sem : SemOf Tryz.prog 176 object_Field_sm := semC (c := object_Field_c) Tryz.func176 (sc object_place_sem (sc word_Get_sem an)) an an 8
abbrev snap_Pending_h0 : U := (.cons (.sl cMut) (.cons cI (.cons cI (.cons cHeap (.cons (.sl cVal) .nil)))))
abbrev snap_Pending_o0 : U := (.cons (.sl cVal) .nil)
abbrev snap_Pending_e0 : U := .nil
def snap_Pending_s0r (v10 : List Mut) (v11 : Int) (v12 : Int) (c0 : Heap) (r96 : List Val) : Option (SRes snap_Pending_h0 snap_Pending_o0 snap_Pending_e0) :=
 bif decide (v12 < v11) then
  bif decide (0 ≤ v12) then
   bif decide (v12 < (v10.length : Int)) then
    bif (v10.getD v12.toNat ([], 0, (0, 0, 0, 0, ()), 0, (0, 0, ()), List.replicate 4 0, ())).2.1 == 4 then
     (object_Field (c0, (v10.getD v12.toNat ([], 0, (0, 0, 0, 0, ()), 0, (0, 0, ()), List.replicate 4 0, ())).2.2.2.1, (v10.getD v12.toNat ([], 0, (0, 0, 0, 0, ()), 0, (0, 0, ()), List.replicate 4 0, ())).2.2.1.2.2.1, ())).bind fun y1 =>
     bif decide ((r96.length + 1) * 16 ≤ 140737488355328) then
      some (.next (v10, v11, wi64 (v12 + 1), c0, r96 ++ [(y1.1.1, y1.1.2.1, ())], ()))
     else none
    else
    some (.next (v10, v11, wi64 (v12 + 1), c0, r96, ()))
   else none
  else none
 else
 some (.fin (.out (r96, ())))
def snap_Pending_s0 (x : snap_Pending_h0.T) : Option (SRes snap_Pending_h0 snap_Pending_o0 snap_Pending_e0) := snap_Pending_s0r x.1 x.2.1 x.2.2.1 x.2.2.2.1 x.2.2.2.2.1
def snap_Pending_l0 (x : snap_Pending_h0.T) : Option (LRes snap_Pending_o0 snap_Pending_e0) := iterL snap_Pending_s0 9223372036854775808 x
def snap_Pending_r (a0 : Heap) (a1 : List Mut) : Option ((List Val) × Unit) :=
 (snap_Pending_l0 (a1, (a1.length : Int), 0, a0, [], ())).bind fun s2 => match s2 with
 | .out s2 =>
  some (s2.1, ())
 | .ret s2 =>
  none
def snap_Pending (x : Heap × (List Mut) × Unit) : Option ((List Val) × Unit) := snap_Pending_r x.1 x.2.1
def snap_Pending_sm : Sum := ⟨(.cons cHeap (.cons (.sl cMut) .nil)), (.cons (.own cVal) .nil), snap_Pending⟩
def snap_Pending_L0 : LoopSum := { hc := ⟨[], [2, 5, 10, 11, 12], [(.tmp 5, cVal)], [], [0], [], 96⟩, h := ⟨[(2, (.pvar 0 [])), (5, (.row 96)), (10, (.d (.sl cMut))), (11, (.d cI)), (12, (.d cI))], [(0, (.d cHeap))], [(96, cVal, true)], 97⟩, xid := 0, oc := ⟨[], [5], [(.tmp 5, cVal)], [], [], [], 96⟩, o := ⟨[(5, (.row 96))], [], [(96, cVal, true)], 97⟩, rc := ⟨[], [], [], [], [96], [], 96⟩, r := ⟨[], [], [], 96⟩, F := snap_Pending_l0 }
def snap_Pending_c : Ctx := ⟨[(176, object_Field_sm)], [], [⟨8, 275, 0, 0, snap_Pending_L0⟩]⟩
theorem snap_Pending_sem : SemOf Tryz.prog 275 snap_Pending_sm := semC (c := snap_Pending_c) Tryz.func275 (sc object_Field_sem an) an (ec (aeC [true, true, false, true, false, false] snap_Pending_s0 Tryz.func275) an) 8
end
end Go.Proofs.YtkjpakaidjpjgaaGreatDoor.Den
