/- What functions come to. Printed by a program of this session. -/
import Derived.Test.YtdfhopakojmjkaaDoorDenF1
namespace Go.Proofs.YtdfhopakojmjkaaDoor.Den
open Go
set_option maxRecDepth 100000
set_option linter.unusedVariables false
/-! ### flotsam/flotsamref06.Take -/
def flotsamref06_Take_s0r (v5 : Int) (c0 : Span) (c16 : Span) : Option (SRes (.cons cI (.cons cSpan (.cons cSpan .nil))) (.cons cSpan (.cons cSpan .nil)) (.cons cI (.cons .bool (.cons cSpan .nil)))) :=
  bif decide (v5 < 16) then
    bif c0.1 == 1 then
      (flotsamref03_Has (c0.2.2.1, v5, ())).bind fun y1 =>
      bif y1.1 then
        (flotsamref03_Without (c0.2.2.1, v5, ())).bind fun y2 =>
        some (.fin (.ret (v5, true, (c0.1, c0.2.1, y2.1, c0.2.2.2), ())))
      else
      some (.next (wi64 (v5 + 1), c0, c16, ()))
    else
    some (.fin (.out (c0, c16, ())))
  else
  some (.fin (.out (c0, c16, ())))
def flotsamref06_Take_s0 (x : Int × Span × Span × Unit) : Option (SRes (.cons cI (.cons cSpan (.cons cSpan .nil))) (.cons cSpan (.cons cSpan .nil)) (.cons cI (.cons .bool (.cons cSpan .nil)))) := flotsamref06_Take_s0r x.1 x.2.1 x.2.2.1
def flotsamref06_Take_l0 (x : Int × Span × Span × Unit) : Option (LRes (.cons cSpan (.cons cSpan .nil)) (.cons cI (.cons .bool (.cons cSpan .nil)))) := iterL (h := (.cons cI (.cons cSpan (.cons cSpan .nil)))) (o := (.cons cSpan (.cons cSpan .nil))) (r := (.cons cI (.cons .bool (.cons cSpan .nil)))) flotsamref06_Take_s0 9223372036854775808 x
def flotsamref06_Take_r (a0 : Span) : Option (Span × Int × Bool × Unit) :=
  (flotsamref06_Take_l0 (0, a0, (0, 0, 0, ()), ())).bind fun s3 => match s3 with
  | .out s3 =>
    some (s3.1, 0, false, ())
  | .ret s3 =>
    some (s3.2.2.1, s3.1, s3.2.1, ())
def flotsamref06_Take (x : Span × Unit) : Option (Span × Int × Bool × Unit) := flotsamref06_Take_r x.1
noncomputable def flotsamref06_Take_sm : Sum := ⟨(.cons cSpan .nil), (.cons (.d cSpan) (.cons (.d cI) (.cons (.d .bool) .nil))), flotsamref06_Take⟩
noncomputable def flotsamref06_Take_L0 : LoopSum := { hc := ⟨[], [1, 2, 5], [], [], [0, 16], [], 80⟩, h := ⟨[(1, (.pvar 0 [])), (2, (.pvar 16 [])), (5, (.d cI))], [(0, (.d cSpan)), (16, (.d cSpan))], [], 80⟩, xid := 0, oc := ⟨[], [1, 2], [], [], [0, 16], [], 80⟩, o := ⟨[(1, (.pvar 0 [])), (2, (.pvar 16 []))], [(0, (.d cSpan)), (16, (.d cSpan))], [], 80⟩, rc := ⟨[], [2, 3, 4], [], [], [16], [], 80⟩, r := ⟨[(2, (.pvar 16 [])), (3, (.d cI)), (4, (.d .bool))], [(16, (.d cSpan))], [], 80⟩, F := flotsamref06_Take_l0 }
noncomputable def flotsamref06_Take_S : List (Nat × Sum) := [(137, flotsamref03_Has_sm), (160, flotsamref03_Without_sm)]
noncomputable def flotsamref06_Take_fl : List (Nat × Func) := []
noncomputable def flotsamref06_Take_es : List AE := [⟨8, 118, 0, 0, flotsamref06_Take_L0⟩]
theorem flotsamref06_Take_den0 : (fun x => denStep TEv (look1 flotsamref06_Take_S) (look1 flotsamref06_Take_fl) (annOf flotsamref06_Take_es) 8 118 Go.Proofs.Tryd.f118.ntmps 0 (cat (bodyOf Go.Proofs.Tryd.f118) [true, false, true, false, false]) flotsamref06_Take_L0 x) = flotsamref06_Take_s0 := by kernel_rfl
theorem flotsamref06_Take_den : (fun x => denFun TEv (look1 flotsamref06_Take_S) (look1 flotsamref06_Take_fl) (annOf flotsamref06_Take_es) 8 118 Go.Proofs.Tryd.f118 flotsamref06_Take_sm.a flotsamref06_Take_sm.r x) = flotsamref06_Take_sm.F := by kernel_rfl
theorem flotsamref06_Take_ok0 : AEok Go.Proofs.Tryd.prog TEv (look1 flotsamref06_Take_S) (look1 flotsamref06_Take_fl) (annOf flotsamref06_Take_es) ⟨8, 118, 0, 0, flotsamref06_Take_L0⟩ := aeok_of 9223372036854775808 Go.Proofs.Tryd.func118 (by kernel_rfl) flotsamref06_Take_den0 (by kernel_rfl)
theorem flotsamref06_Take_sem : SemOf Go.Proofs.Tryd.prog 118 flotsamref06_Take_sm :=
  semMk teOk (sl := flotsamref06_Take_S) (all_cons flotsamref03_Has_sem (all_cons flotsamref03_Without_sem all_nil)) (fl := flotsamref06_Take_fl) (all_nil) (es := flotsamref06_Take_es) Go.Proofs.Tryd.func118 (by kernel_rfl) rfl (rng_none (by kernel_rfl) (by kernel_rfl)) (all_cons flotsamref06_Take_ok0 (all_nil)) rfl flotsamref06_Take_den

/-! ### flotsam/flotsamref05.Address -/
def flotsamref05_Address_r (a0 : Int) (a1 : Int) (a2 : Int) : Option (Int × Bool × Unit) :=
  bif decide (a0 < 0) then
    some (0, false, ())
  else
  bif decide (a0 > 15) then
    some (0, false, ())
  else
  bif decide (a2 < 0) then
    some (0, false, ())
  else
  (flotsamref04_Blocks (a1, ())).bind fun y1 =>
  bif decide (a2 ≥ y1.1) then
    some (0, false, ())
  else
  (flotsamref04_Words (a1, ())).bind fun y2 =>
  some (wi64 ((wi64 (32 * a0)) + (wi64 (a2 * y2.1))), true, ())
def flotsamref05_Address (x : Int × Val) : Option (Int × Bool × Unit) := flotsamref05_Address_r x.1 x.2.1 x.2.2.1
noncomputable def flotsamref05_Address_sm : Sum := ⟨(.cons cI cVal), (.cons (.d cI) (.cons (.d .bool) .nil)), flotsamref05_Address⟩
noncomputable def flotsamref05_Address_S : List (Nat × Sum) := [(99, flotsamref04_Blocks_sm), (100, flotsamref04_Words_sm)]
noncomputable def flotsamref05_Address_fl : List (Nat × Func) := []
noncomputable def flotsamref05_Address_es : List AE := []
theorem flotsamref05_Address_den : (fun x => denFun TEv (look1 flotsamref05_Address_S) (look1 flotsamref05_Address_fl) (annOf flotsamref05_Address_es) 8 119 Go.Proofs.Tryd.f119 flotsamref05_Address_sm.a flotsamref05_Address_sm.r x) = flotsamref05_Address_sm.F := by kernel_rfl
theorem flotsamref05_Address_sem : SemOf Go.Proofs.Tryd.prog 119 flotsamref05_Address_sm :=
  semMk teOk (sl := flotsamref05_Address_S) (all_cons flotsamref04_Blocks_sem (all_cons flotsamref04_Words_sem all_nil)) (fl := flotsamref05_Address_fl) (all_nil) (es := flotsamref05_Address_es) Go.Proofs.Tryd.func119 (by kernel_rfl) rfl (rng_none (by kernel_rfl) (by kernel_rfl)) (all_nil) rfl flotsamref05_Address_den

/-! ### flotsam/flotsamref07.Lay -/
def flotsamref07_Lay_s0r (v2 : Int) (v13 : Int) (v15 : Int) (c0 : Heap) (c16 : Bool × Unit) (c608 : Span) (c768 : Bool × Unit) (r752 : List Int) (r753 : List Span) : Option (SRes (.cons cI (.cons cI (.cons cI (.cons cHeap (.cons (.cons .bool .nil) (.cons cSpan (.cons (.cons .bool .nil) (.cons (.sl (.int .u64)) (.cons (.sl cSpan) .nil))))))))) (.cons cI (.cons cI (.cons cHeap (.cons (.cons .bool .nil) (.cons cSpan (.cons (.cons .bool .nil) (.cons (.sl (.int .u64)) (.cons (.sl cSpan) .nil)))))))) .nil) :=
  (flotsamref04_Words (c608.2.1, ())).bind fun y5 =>
  bif decide (v15 < y5.1) then
    bif decide (0 ≤ (wi64 (v13 + v15))) then
      bif decide ((wi64 (v13 + v15)) < (r752.length : Int)) then
        some (.next (v2, v13, wi64 (v15 + 1), c0, c16, c608, c768, r752.set (wi64 (v13 + v15)).toNat 0, r753, ()))
      else none
    else none
  else
  some (.fin (.out (v2, v13, c0, c16, c608, c768, r752, r753, ())))
def flotsamref07_Lay_s0 (x : Int × Int × Int × Heap × (Bool × Unit) × Span × (Bool × Unit) × (List Int) × (List Span) × Unit) : Option (SRes (.cons cI (.cons cI (.cons cI (.cons cHeap (.cons (.cons .bool .nil) (.cons cSpan (.cons (.cons .bool .nil) (.cons (.sl (.int .u64)) (.cons (.sl cSpan) .nil))))))))) (.cons cI (.cons cI (.cons cHeap (.cons (.cons .bool .nil) (.cons cSpan (.cons (.cons .bool .nil) (.cons (.sl (.int .u64)) (.cons (.sl cSpan) .nil)))))))) .nil) := flotsamref07_Lay_s0r x.1 x.2.1 x.2.2.1 x.2.2.2.1 x.2.2.2.2.1 x.2.2.2.2.2.1 x.2.2.2.2.2.2.1 x.2.2.2.2.2.2.2.1 x.2.2.2.2.2.2.2.2.1
def flotsamref07_Lay_l0 (x : Int × Int × Int × Heap × (Bool × Unit) × Span × (Bool × Unit) × (List Int) × (List Span) × Unit) : Option (LRes (.cons cI (.cons cI (.cons cHeap (.cons (.cons .bool .nil) (.cons cSpan (.cons (.cons .bool .nil) (.cons (.sl (.int .u64)) (.cons (.sl cSpan) .nil)))))))) .nil) := iterL (h := (.cons cI (.cons cI (.cons cI (.cons cHeap (.cons (.cons .bool .nil) (.cons cSpan (.cons (.cons .bool .nil) (.cons (.sl (.int .u64)) (.cons (.sl cSpan) .nil)))))))))) (o := (.cons cI (.cons cI (.cons cHeap (.cons (.cons .bool .nil) (.cons cSpan (.cons (.cons .bool .nil) (.cons (.sl (.int .u64)) (.cons (.sl cSpan) .nil))))))))) (r := .nil) flotsamref07_Lay_s0 9223372036854775808 x
def flotsamref07_Lay_r (a0 : Heap) (a1 : Int) (a2 : Int) : Option (Heap × Int × Bool × Unit) :=
  bif decide (a1 < 0) then
    some (a0, 0, false, ())
  else
  bif decide (a1 ≥ (a0.2.1.length : Int)) then
    some (a0, 0, false, ())
  else
  bif decide (a2 < 0) then
    some (a0, 0, false, ())
  else
  bif decide (0 ≤ a1) then
    bif decide (a1 < (a0.2.1.length : Int)) then
      (flotsamref04_Words ((a0.2.1.getD a1.toNat (0, 0, 0, ())).2.1, ())).bind fun y1 =>
      bif decide (a2 ≥ y1.1) then
        some (a0, 0, false, ())
      else
      bif decide (0 ≤ a1) then
        bif decide (a1 < (a0.2.1.length : Int)) then
          (flotsamref06_Take (a0.2.1.getD a1.toNat (0, 0, 0, ()), ())).bind fun y2 =>
          bif !y2.2.2.1 then
            some (a0, 0, false, ())
          else
          (flotsamref07_with (a0, a1, y2.1, ())).bind fun y3 =>
          (flotsamref05_Address (a1, y2.1.2.1, y2.2.1, ())).bind fun y4 =>
          (flotsamref07_Lay_l0 (a2, y4.1, 0, a0, (false, ()), y2.1, y3.1.2.2, y3.1.1, y3.1.2.1, ())).bind fun s6 => match s6 with
          | .out s6 =>
            (flotsamref02_Put ((true, s6.2.2.1.2.2.1, s6.2.2.2.2.1.2.1, s6.1, ()), ())).bind fun y7 =>
            bif decide (0 ≤ s6.2.1) then
              bif decide (s6.2.1 < (s6.2.2.2.2.2.2.1.length : Int)) then
                some ((s6.2.2.2.2.2.2.1.set s6.2.1.toNat y7.1, s6.2.2.2.2.2.2.2.1, s6.2.2.2.2.2.1), s6.2.1, true, ())
              else none
            else none
          | .ret s6 =>
            none
        else none
      else none
    else none
  else none
def flotsamref07_Lay (x : Heap × Val) : Option (Heap × Int × Bool × Unit) := flotsamref07_Lay_r x.1 x.2.1 x.2.2.1
noncomputable def flotsamref07_Lay_sm : Sum := ⟨(.cons cHeap cVal), (.cons (.d cHeap) (.cons (.d cI) (.cons (.d .bool) .nil))), flotsamref07_Lay⟩
noncomputable def flotsamref07_Lay_L0 : LoopSum := { hc := ⟨[], [2, 3, 6, 9, 12, 13, 15], [], [], [0, 16, 608, 768], [752, 753], 976⟩, h := ⟨[(2, (.d cI)), (3, (.pvar 0 [])), (6, (.pvar 16 [])), (9, (.pvar 608 [])), (12, (.pvar 768 [])), (13, (.d cI)), (15, (.d cI))], [(0, (.d cHeap)), (16, (.cons .nilsl (.cons .nilsl (.d (.cons .bool .nil))))), (608, (.d cSpan)), (768, (.cons (.row 752) (.cons (.row 753) (.d (.cons .bool .nil)))))], [(752, (.int .u64), true), (753, cSpan, true)], 976⟩, xid := 0, oc := ⟨[], [2, 3, 6, 9, 12, 13], [], [], [0, 16, 608, 768], [752, 753], 976⟩, o := ⟨[(2, (.d cI)), (3, (.pvar 0 [])), (6, (.pvar 16 [])), (9, (.pvar 608 [])), (12, (.pvar 768 [])), (13, (.d cI))], [(0, (.d cHeap)), (16, (.cons .nilsl (.cons .nilsl (.d (.cons .bool .nil))))), (608, (.d cSpan)), (768, (.cons (.row 752) (.cons (.row 753) (.d (.cons .bool .nil)))))], [(752, (.int .u64), true), (753, cSpan, true)], 976⟩, rc := ⟨[], [], [], [], [976], [], 976⟩, r := ⟨[], [], [], 976⟩, F := flotsamref07_Lay_l0 }
noncomputable def flotsamref07_Lay_S : List (Nat × Sum) := [(89, flotsamref02_Put_sm), (100, flotsamref04_Words_sm), (107, flotsamref07_with_sm), (118, flotsamref06_Take_sm), (119, flotsamref05_Address_sm)]
noncomputable def flotsamref07_Lay_fl : List (Nat × Func) := []
noncomputable def flotsamref07_Lay_es : List AE := [⟨8, 58, 0, 0, flotsamref07_Lay_L0⟩]
theorem flotsamref07_Lay_den0 : (fun x => denStep TEv (look1 flotsamref07_Lay_S) (look1 flotsamref07_Lay_fl) (annOf flotsamref07_Lay_es) 8 58 Go.Proofs.Tryd.f58.ntmps 0 (cat (bodyOf Go.Proofs.Tryd.f58) [true, true, true, true, true, true, false, true, false, false]) flotsamref07_Lay_L0 x) = flotsamref07_Lay_s0 := by kernel_rfl
theorem flotsamref07_Lay_den : (fun x => denFun TEv (look1 flotsamref07_Lay_S) (look1 flotsamref07_Lay_fl) (annOf flotsamref07_Lay_es) 8 58 Go.Proofs.Tryd.f58 flotsamref07_Lay_sm.a flotsamref07_Lay_sm.r x) = flotsamref07_Lay_sm.F := by kernel_rfl
theorem flotsamref07_Lay_ok0 : AEok Go.Proofs.Tryd.prog TEv (look1 flotsamref07_Lay_S) (look1 flotsamref07_Lay_fl) (annOf flotsamref07_Lay_es) ⟨8, 58, 0, 0, flotsamref07_Lay_L0⟩ := aeok_of 9223372036854775808 Go.Proofs.Tryd.func58 (by kernel_rfl) flotsamref07_Lay_den0 (by kernel_rfl)
theorem flotsamref07_Lay_sem : SemOf Go.Proofs.Tryd.prog 58 flotsamref07_Lay_sm :=
  semMk teOk (sl := flotsamref07_Lay_S) (all_cons flotsamref02_Put_sem (all_cons flotsamref04_Words_sem (all_cons flotsamref07_with_sem (all_cons flotsamref06_Take_sem (all_cons flotsamref05_Address_sem all_nil))))) (fl := flotsamref07_Lay_fl) (all_nil) (es := flotsamref07_Lay_es) Go.Proofs.Tryd.func58 (by kernel_rfl) rfl (rng_none (by kernel_rfl) (by kernel_rfl)) (all_cons flotsamref07_Lay_ok0 (all_nil)) rfl flotsamref07_Lay_den

/-! ### flotsam/flotsamref07.Made -/
def flotsamref07_Made_s0r (v1 : List (Int × Val)) (v6 : Int) (c0 : Bool × Unit) (c112 : Heap) : Option (SRes (.cons (.sl (.cons cI cVal)) (.cons cI (.cons (.cons .bool .nil) (.cons cHeap .nil)))) (.cons (.cons .bool .nil) (.cons cHeap .nil)) .nil) :=
  bif decide (v6 < (v1.length : Int)) then
    bif decide (0 ≤ v6) then
      bif decide (v6 < (v1.length : Int)) then
        bif (v1.getD v6.toNat (0, 0, 0, ())).1 == 0 then
          (flotsamref07_Open (c112, (v1.getD v6.toNat (0, 0, 0, ())).2.1, (v1.getD v6.toNat (0, 0, 0, ())).2.2.1, ())).bind fun y1 =>
          some (.next (v1, wi64 (v6 + 1), c0, y1.1, ()))
        else
        bif (v1.getD v6.toNat (0, 0, 0, ())).1 == 1 then
          (flotsamref07_Lay (c112, (v1.getD v6.toNat (0, 0, 0, ())).2.1, (v1.getD v6.toNat (0, 0, 0, ())).2.2.1, ())).bind fun y2 =>
          some (.next (v1, wi64 (v6 + 1), c0, y2.1, ()))
        else
        bif (v1.getD v6.toNat (0, 0, 0, ())).1 == 2 then
          (flotsamref07_Lay (c112, (v1.getD v6.toNat (0, 0, 0, ())).2.1, (v1.getD v6.toNat (0, 0, 0, ())).2.2.1, ())).bind fun y3 =>
          some (.next (v1, wi64 (v6 + 1), c0, y3.1, ()))
        else
        bif (v1.getD v6.toNat (0, 0, 0, ())).1 == 3 then
          (flotsamref07_Free (c112, (v1.getD v6.toNat (0, 0, 0, ())).2.1, ())).bind fun y4 =>
          some (.next (v1, wi64 (v6 + 1), c0, y4.1, ()))
        else
        bif (v1.getD v6.toNat (0, 0, 0, ())).1 == 4 then
          (flotsamref07_Close (c112, (v1.getD v6.toNat (0, 0, 0, ())).2.1, ())).bind fun y5 =>
          some (.next (v1, wi64 (v6 + 1), c0, y5.1, ()))
        else
        some (.next (v1, wi64 (v6 + 1), c0, (c112.1, c112.2.1, !c112.2.2.1, c112.2.2.2), ()))
      else none
    else none
  else
  some (.fin (.out (c0, c112, ())))
def flotsamref07_Made_s0 (x : (List (Int × Val)) × Int × (Bool × Unit) × Heap × Unit) : Option (SRes (.cons (.sl (.cons cI cVal)) (.cons cI (.cons (.cons .bool .nil) (.cons cHeap .nil)))) (.cons (.cons .bool .nil) (.cons cHeap .nil)) .nil) := flotsamref07_Made_s0r x.1 x.2.1 x.2.2.1 x.2.2.2.1
def flotsamref07_Made_l0 (x : (List (Int × Val)) × Int × (Bool × Unit) × Heap × Unit) : Option (LRes (.cons (.cons .bool .nil) (.cons cHeap .nil)) .nil) := iterL (h := (.cons (.sl (.cons cI cVal)) (.cons cI (.cons (.cons .bool .nil) (.cons cHeap .nil))))) (o := (.cons (.cons .bool .nil) (.cons cHeap .nil))) (r := .nil) flotsamref07_Made_s0 9223372036854775808 x
def flotsamref07_Made_r (a0 : Int) (a1 : List (Int × Val)) : Option (Heap × Unit) :=
  bif (wi64 (32 * a0)) == (wi64 (32 * a0)) then
    bif decide (0 ≤ (wi64 (32 * a0))) then
      bif decide ((wi64 (32 * a0)).toNat * 8 ≤ 140737488355328) then
        bif a0 == a0 then
          bif decide (0 ≤ a0) then
            bif decide (a0.toNat * 24 ≤ 140737488355328) then
              (flotsamref07_Made_l0 (a1, 0, (false, ()), (List.replicate (wi64 (32 * a0)).toNat (0 : Int), List.replicate a0.toNat ((0, 0, 0, ()) : Span), false, ()), ())).bind fun s6 => match s6 with
              | .out s6 =>
                some (s6.2.1, ())
              | .ret s6 =>
                none
            else none
          else none
        else none
      else none
    else none
  else none
def flotsamref07_Made (x : Int × (List (Int × Val)) × Unit) : Option (Heap × Unit) := flotsamref07_Made_r x.1 x.2.1
noncomputable def flotsamref07_Made_sm : Sum := ⟨(.cons cI (.cons (.sl (.cons cI cVal)) .nil)), (.cons (.d cHeap) .nil), flotsamref07_Made⟩
noncomputable def flotsamref07_Made_L0 : LoopSum := { hc := ⟨[(.key 112 [], cHeap)], [1, 4, 5, 6], [], [], [0, 112], [], 160⟩, h := ⟨[(1, (.d (.sl (.cons cI cVal)))), (4, (.pvar 0 [])), (5, (.pvar 112 [])), (6, (.d cI))], [(0, (.cons .nilsl (.cons .nilsl (.d (.cons .bool .nil))))), (112, (.d cHeap))], [], 160⟩, xid := 0, oc := ⟨[], [4, 5], [], [], [0, 112], [], 160⟩, o := ⟨[(4, (.pvar 0 [])), (5, (.pvar 112 []))], [(0, (.cons .nilsl (.cons .nilsl (.d (.cons .bool .nil))))), (112, (.d cHeap))], [], 160⟩, rc := ⟨[], [], [], [], [160], [], 160⟩, r := ⟨[], [], [], 160⟩, F := flotsamref07_Made_l0 }
noncomputable def flotsamref07_Made_S : List (Nat × Sum) := [(52, flotsamref07_Open_sm), (54, flotsamref07_Close_sm), (56, flotsamref07_Free_sm), (58, flotsamref07_Lay_sm)]
noncomputable def flotsamref07_Made_fl : List (Nat × Func) := []
noncomputable def flotsamref07_Made_es : List AE := [⟨8, 45, 0, 0, flotsamref07_Made_L0⟩]
theorem flotsamref07_Made_den0 : (fun x => denStep TEv (look1 flotsamref07_Made_S) (look1 flotsamref07_Made_fl) (annOf flotsamref07_Made_es) 8 45 Go.Proofs.Tryd.f45.ntmps 0 (cat (bodyOf Go.Proofs.Tryd.f45) [true, true, false, true, false, false]) flotsamref07_Made_L0 x) = flotsamref07_Made_s0 := by kernel_rfl
theorem flotsamref07_Made_den : (fun x => denFun TEv (look1 flotsamref07_Made_S) (look1 flotsamref07_Made_fl) (annOf flotsamref07_Made_es) 8 45 Go.Proofs.Tryd.f45 flotsamref07_Made_sm.a flotsamref07_Made_sm.r x) = flotsamref07_Made_sm.F := by kernel_rfl
theorem flotsamref07_Made_ok0 : AEok Go.Proofs.Tryd.prog TEv (look1 flotsamref07_Made_S) (look1 flotsamref07_Made_fl) (annOf flotsamref07_Made_es) ⟨8, 45, 0, 0, flotsamref07_Made_L0⟩ := aeok_of 9223372036854775808 Go.Proofs.Tryd.func45 (by kernel_rfl) flotsamref07_Made_den0 (by kernel_rfl)
theorem flotsamref07_Made_sem : SemOf Go.Proofs.Tryd.prog 45 flotsamref07_Made_sm :=
  semMk teOk (sl := flotsamref07_Made_S) (all_cons flotsamref07_Open_sem (all_cons flotsamref07_Close_sem (all_cons flotsamref07_Free_sem (all_cons flotsamref07_Lay_sem all_nil)))) (fl := flotsamref07_Made_fl) (all_nil) (es := flotsamref07_Made_es) Go.Proofs.Tryd.func45 (by kernel_rfl) rfl (rng_none (by kernel_rfl) (by kernel_rfl)) (all_cons flotsamref07_Made_ok0 (all_nil)) rfl flotsamref07_Made_den

/-! ### flotsam/flotsamlaw16.small -/
def flotsamlaw16_small_r  : Option (Heap × Unit) :=
  (flotsamref07_Made (1, [(0, 0, 0, ()), (1, 0, 1, ()), (1, 0, 1, ()), (5, 0, 0, ())], ())).bind fun y1 =>
  some (y1.1, ())
def flotsamlaw16_small (x : Unit) : Option (Heap × Unit) := flotsamlaw16_small_r 
noncomputable def flotsamlaw16_small_sm : Sum := ⟨.nil, (.cons (.d cHeap) .nil), flotsamlaw16_small⟩
noncomputable def flotsamlaw16_small_S : List (Nat × Sum) := [(45, flotsamref07_Made_sm)]
noncomputable def flotsamlaw16_small_fl : List (Nat × Func) := []
noncomputable def flotsamlaw16_small_es : List AE := []
theorem flotsamlaw16_small_den : (fun x => denFun TEv (look1 flotsamlaw16_small_S) (look1 flotsamlaw16_small_fl) (annOf flotsamlaw16_small_es) 8 68 Go.Proofs.Tryd.f68 flotsamlaw16_small_sm.a flotsamlaw16_small_sm.r x) = flotsamlaw16_small_sm.F := by kernel_rfl
theorem flotsamlaw16_small_sem : SemOf Go.Proofs.Tryd.prog 68 flotsamlaw16_small_sm :=
  semMk teOk (sl := flotsamlaw16_small_S) (all_cons flotsamref07_Made_sem all_nil) (fl := flotsamlaw16_small_fl) (all_nil) (es := flotsamlaw16_small_es) Go.Proofs.Tryd.func68 (by kernel_rfl) rfl (rng_none (by kernel_rfl) (by kernel_rfl)) (all_nil) rfl flotsamlaw16_small_den

/-! ### flotsam/flotsamref02.May -/
def flotsamref02_May_r (a0 : Hdr) : Option (Bool × Unit) :=
  bif !a0.1 then
    bif !a0.2.1 then
      bif a0.2.2.1 == 0 then
        some (a0.2.2.2.1 == 0, ())
      else
      some (false, ())
    else
    some (false, ())
  else
  bif decide (a0.2.2.1 < 0) then
    some (false, ())
  else
  bif decide (a0.2.2.1 > 3) then
    some (false, ())
  else
  bif decide (a0.2.2.2.1 < 0) then
    some (false, ())
  else
  bif decide (0 ≤ a0.2.2.1) then
    bif decide (a0.2.2.1 < 4) then
      some (decide (a0.2.2.2.1 ≤ ([1, 3, 7, 15].getD a0.2.2.1.toNat 0)), ())
    else none
  else none
def flotsamref02_May (x : Hdr × Unit) : Option (Bool × Unit) := flotsamref02_May_r x.1
noncomputable def flotsamref02_May_sm : Sum := ⟨(.cons cHdr .nil), (.cons (.d .bool) .nil), flotsamref02_May⟩
noncomputable def flotsamref02_May_S : List (Nat × Sum) := []
noncomputable def flotsamref02_May_fl : List (Nat × Func) := []
noncomputable def flotsamref02_May_es : List AE := []
theorem flotsamref02_May_den : (fun x => denFun TEv (look1 flotsamref02_May_S) (look1 flotsamref02_May_fl) (annOf flotsamref02_May_es) 8 120 Go.Proofs.Tryd.f120 flotsamref02_May_sm.a flotsamref02_May_sm.r x) = flotsamref02_May_sm.F := by kernel_rfl
theorem flotsamref02_May_sem : SemOf Go.Proofs.Tryd.prog 120 flotsamref02_May_sm :=
  semMk teOk (sl := flotsamref02_May_S) (all_nil) (fl := flotsamref02_May_fl) (all_nil) (es := flotsamref02_May_es) Go.Proofs.Tryd.func120 (by kernel_rfl) rfl (rng_none (by kernel_rfl) (by kernel_rfl)) (all_nil) rfl flotsamref02_May_den

/-! ### flotsam/flotsamref02.Get -/
def flotsamref02_Get_s0r (v0 : Int) (v4 : Int) (v5 : Int) (v6 : Int) (c0 : Hdr) : Option (SRes (.cons (.int .u64) (.cons cI (.cons cI (.cons cI (.cons cHdr .nil))))) (.cons (.int .u64) (.cons cI (.cons cI (.cons cHdr .nil)))) (.cons .bool (.cons cHdr .nil))) :=
  bif decide (v6 < 2) then
    (flotsamref02_May ((true, v6 == 1, v4, v5, ()), ())).bind fun y1 =>
    bif y1.1 then
      (flotsamref02_Put ((true, v6 == 1, v4, v5, ()), ())).bind fun y2 =>
      bif y2.1 == v0 then
        some (.fin (.ret (true, (true, v6 == 1, v4, v5, ()), ())))
      else
      some (.next (v0, v4, v5, wi64 (v6 + 1), c0, ()))
    else
    some (.next (v0, v4, v5, wi64 (v6 + 1), c0, ()))
  else
  some (.fin (.out (v0, v4, v5, c0, ())))
def flotsamref02_Get_s0 (x : Int × Int × Int × Int × Hdr × Unit) : Option (SRes (.cons (.int .u64) (.cons cI (.cons cI (.cons cI (.cons cHdr .nil))))) (.cons (.int .u64) (.cons cI (.cons cI (.cons cHdr .nil)))) (.cons .bool (.cons cHdr .nil))) := flotsamref02_Get_s0r x.1 x.2.1 x.2.2.1 x.2.2.2.1 x.2.2.2.2.1
def flotsamref02_Get_l0 (x : Int × Int × Int × Int × Hdr × Unit) : Option (LRes (.cons (.int .u64) (.cons cI (.cons cI (.cons cHdr .nil)))) (.cons .bool (.cons cHdr .nil))) := iterL (h := (.cons (.int .u64) (.cons cI (.cons cI (.cons cI (.cons cHdr .nil)))))) (o := (.cons (.int .u64) (.cons cI (.cons cI (.cons cHdr .nil))))) (r := (.cons .bool (.cons cHdr .nil))) flotsamref02_Get_s0 9223372036854775808 x
def flotsamref02_Get_s1r (v0 : Int) (v4 : Int) (v5 : Int) (c0 : Hdr) : Option (SRes (.cons (.int .u64) (.cons cI (.cons cI (.cons cHdr .nil)))) (.cons (.int .u64) (.cons cI (.cons cHdr .nil))) (.cons .bool (.cons cHdr .nil))) :=
  bif decide (v5 < 16) then
    (flotsamref02_Get_l0 (v0, v4, v5, 0, c0, ())).bind fun s3 => match s3 with
    | .out s3 =>
      some (.next (s3.1, s3.2.1, wi64 (s3.2.2.1 + 1), s3.2.2.2.1, ()))
    | .ret s3 =>
      some (.fin (.ret (s3.1, s3.2.1, ())))
  else
  some (.fin (.out (v0, v4, c0, ())))
def flotsamref02_Get_s1 (x : Int × Int × Int × Hdr × Unit) : Option (SRes (.cons (.int .u64) (.cons cI (.cons cI (.cons cHdr .nil)))) (.cons (.int .u64) (.cons cI (.cons cHdr .nil))) (.cons .bool (.cons cHdr .nil))) := flotsamref02_Get_s1r x.1 x.2.1 x.2.2.1 x.2.2.2.1
def flotsamref02_Get_l1 (x : Int × Int × Int × Hdr × Unit) : Option (LRes (.cons (.int .u64) (.cons cI (.cons cHdr .nil))) (.cons .bool (.cons cHdr .nil))) := iterL (h := (.cons (.int .u64) (.cons cI (.cons cI (.cons cHdr .nil))))) (o := (.cons (.int .u64) (.cons cI (.cons cHdr .nil)))) (r := (.cons .bool (.cons cHdr .nil))) flotsamref02_Get_s1 9223372036854775808 x
def flotsamref02_Get_s2r (v0 : Int) (v4 : Int) (c0 : Hdr) : Option (SRes (.cons (.int .u64) (.cons cI (.cons cHdr .nil))) (.cons cHdr .nil) (.cons .bool (.cons cHdr .nil))) :=
  bif decide (v4 < 4) then
    (flotsamref02_Get_l1 (v0, v4, 0, c0, ())).bind fun s4 => match s4 with
    | .out s4 =>
      some (.next (s4.1, wi64 (s4.2.1 + 1), s4.2.2.1, ()))
    | .ret s4 =>
      some (.fin (.ret (s4.1, s4.2.1, ())))
  else
  some (.fin (.out (c0, ())))
def flotsamref02_Get_s2 (x : Int × Int × Hdr × Unit) : Option (SRes (.cons (.int .u64) (.cons cI (.cons cHdr .nil))) (.cons cHdr .nil) (.cons .bool (.cons cHdr .nil))) := flotsamref02_Get_s2r x.1 x.2.1 x.2.2.1
def flotsamref02_Get_l2 (x : Int × Int × Hdr × Unit) : Option (LRes (.cons cHdr .nil) (.cons .bool (.cons cHdr .nil))) := iterL (h := (.cons (.int .u64) (.cons cI (.cons cHdr .nil)))) (o := (.cons cHdr .nil)) (r := (.cons .bool (.cons cHdr .nil))) flotsamref02_Get_s2 9223372036854775808 x
def flotsamref02_Get_r (a0 : Int) : Option (Hdr × Bool × Unit) :=
  bif a0 == 0 then
    some ((false, false, 0, 0, ()), true, ())
  else
  (flotsamref02_Get_l2 (a0, 0, (false, false, 0, 0, ()), ())).bind fun s5 => match s5 with
  | .out s5 =>
    some ((false, false, 0, 0, ()), false, ())
  | .ret s5 =>
    some (s5.2.1, s5.1, ())
def flotsamref02_Get (x : Int × Unit) : Option (Hdr × Bool × Unit) := flotsamref02_Get_r x.1
noncomputable def flotsamref02_Get_sm : Sum := ⟨(.cons (.int .u64) .nil), (.cons (.d cHdr) (.cons (.d .bool) .nil)), flotsamref02_Get⟩
noncomputable def flotsamref02_Get_L0 : LoopSum := { hc := ⟨[], [0, 2, 4, 5, 6], [], [], [0], [], 176⟩, h := ⟨[(0, (.d (.int .u64))), (2, (.pvar 0 [])), (4, (.d cI)), (5, (.d cI)), (6, (.d cI))], [(0, (.d cHdr))], [], 176⟩, xid := 4, oc := ⟨[], [0, 2, 4, 5], [], [], [0], [], 176⟩, o := ⟨[(0, (.d (.int .u64))), (2, (.pvar 0 [])), (4, (.d cI)), (5, (.d cI))], [(0, (.d cHdr))], [], 176⟩, rc := ⟨[], [2, 3], [], [], [0], [], 176⟩, r := ⟨[(2, (.pvar 0 [])), (3, (.d .bool))], [(0, (.d cHdr))], [], 176⟩, F := flotsamref02_Get_l0 }
noncomputable def flotsamref02_Get_L1 : LoopSum := { hc := ⟨[], [0, 2, 4, 5], [], [], [0], [], 128⟩, h := ⟨[(0, (.d (.int .u64))), (2, (.pvar 0 [])), (4, (.d cI)), (5, (.d cI))], [(0, (.d cHdr))], [], 128⟩, xid := 2, oc := ⟨[], [0, 2, 4], [], [], [0], [], 128⟩, o := ⟨[(0, (.d (.int .u64))), (2, (.pvar 0 [])), (4, (.d cI))], [(0, (.d cHdr))], [], 128⟩, rc := ⟨[], [2, 3], [], [], [0], [], 128⟩, r := ⟨[(2, (.pvar 0 [])), (3, (.d .bool))], [(0, (.d cHdr))], [], 128⟩, F := flotsamref02_Get_l1 }
noncomputable def flotsamref02_Get_L2 : LoopSum := { hc := ⟨[], [0, 2, 4], [], [], [0], [], 80⟩, h := ⟨[(0, (.d (.int .u64))), (2, (.pvar 0 [])), (4, (.d cI))], [(0, (.d cHdr))], [], 80⟩, xid := 0, oc := ⟨[], [2], [], [], [0], [], 80⟩, o := ⟨[(2, (.pvar 0 []))], [(0, (.d cHdr))], [], 80⟩, rc := ⟨[], [2, 3], [], [], [0], [], 80⟩, r := ⟨[(2, (.pvar 0 [])), (3, (.d .bool))], [(0, (.d cHdr))], [], 80⟩, F := flotsamref02_Get_l2 }
noncomputable def flotsamref02_Get_S : List (Nat × Sum) := [(89, flotsamref02_Put_sm), (120, flotsamref02_May_sm)]
noncomputable def flotsamref02_Get_fl : List (Nat × Func) := []
noncomputable def flotsamref02_Get_es : List AE := [⟨8, 59, 0, 4, flotsamref02_Get_L0⟩, ⟨8, 59, 0, 2, flotsamref02_Get_L1⟩, ⟨8, 59, 0, 0, flotsamref02_Get_L2⟩]
theorem flotsamref02_Get_den0 : (fun x => denStep TEv (look1 flotsamref02_Get_S) (look1 flotsamref02_Get_fl) (annOf flotsamref02_Get_es) 8 59 Go.Proofs.Tryd.f59.ntmps 0 (cat (bodyOf Go.Proofs.Tryd.f59) [true, true, false, true, false, false, true, false, false, true, false, false, true, false, false, true, false, false]) flotsamref02_Get_L0 x) = flotsamref02_Get_s0 := by kernel_rfl
theorem flotsamref02_Get_den1 : (fun x => denStep TEv (look1 flotsamref02_Get_S) (look1 flotsamref02_Get_fl) (annOf flotsamref02_Get_es) 8 59 Go.Proofs.Tryd.f59.ntmps 0 (cat (bodyOf Go.Proofs.Tryd.f59) [true, true, false, true, false, false, true, false, false, true, false, false]) flotsamref02_Get_L1 x) = flotsamref02_Get_s1 := by kernel_rfl
theorem flotsamref02_Get_den2 : (fun x => denStep TEv (look1 flotsamref02_Get_S) (look1 flotsamref02_Get_fl) (annOf flotsamref02_Get_es) 8 59 Go.Proofs.Tryd.f59.ntmps 0 (cat (bodyOf Go.Proofs.Tryd.f59) [true, true, false, true, false, false]) flotsamref02_Get_L2 x) = flotsamref02_Get_s2 := by kernel_rfl
theorem flotsamref02_Get_den : (fun x => denFun TEv (look1 flotsamref02_Get_S) (look1 flotsamref02_Get_fl) (annOf flotsamref02_Get_es) 8 59 Go.Proofs.Tryd.f59 flotsamref02_Get_sm.a flotsamref02_Get_sm.r x) = flotsamref02_Get_sm.F := by kernel_rfl
theorem flotsamref02_Get_ok0 : AEok Go.Proofs.Tryd.prog TEv (look1 flotsamref02_Get_S) (look1 flotsamref02_Get_fl) (annOf flotsamref02_Get_es) ⟨8, 59, 0, 4, flotsamref02_Get_L0⟩ := aeok_of 9223372036854775808 Go.Proofs.Tryd.func59 (by kernel_rfl) flotsamref02_Get_den0 (by kernel_rfl)
theorem flotsamref02_Get_ok1 : AEok Go.Proofs.Tryd.prog TEv (look1 flotsamref02_Get_S) (look1 flotsamref02_Get_fl) (annOf flotsamref02_Get_es) ⟨8, 59, 0, 2, flotsamref02_Get_L1⟩ := aeok_of 9223372036854775808 Go.Proofs.Tryd.func59 (by kernel_rfl) flotsamref02_Get_den1 (by kernel_rfl)
theorem flotsamref02_Get_ok2 : AEok Go.Proofs.Tryd.prog TEv (look1 flotsamref02_Get_S) (look1 flotsamref02_Get_fl) (annOf flotsamref02_Get_es) ⟨8, 59, 0, 0, flotsamref02_Get_L2⟩ := aeok_of 9223372036854775808 Go.Proofs.Tryd.func59 (by kernel_rfl) flotsamref02_Get_den2 (by kernel_rfl)
theorem flotsamref02_Get_sem : SemOf Go.Proofs.Tryd.prog 59 flotsamref02_Get_sm :=
  semMk teOk (sl := flotsamref02_Get_S) (all_cons flotsamref02_Put_sem (all_cons flotsamref02_May_sem all_nil)) (fl := flotsamref02_Get_fl) (all_nil) (es := flotsamref02_Get_es) Go.Proofs.Tryd.func59 (by kernel_rfl) rfl (rng_none (by kernel_rfl) (by kernel_rfl)) (all_cons flotsamref02_Get_ok0 (all_cons flotsamref02_Get_ok1 (all_cons flotsamref02_Get_ok2 (all_nil)))) rfl flotsamref02_Get_den

/-! ### flotsam/flotsamref08.Get -/
def flotsamref08_Get_r (a0 : Heap) (a1 : Int) : Option (Hdr × Bool × Unit) :=
  (flotsamref07_Find (a0, a1, ())).bind fun y1 =>
  bif !y1.2.2.1 then
    some ((false, false, 0, 0, ()), false, ())
  else
  bif decide (0 ≤ a1) then
    bif decide (a1 < (a0.1.length : Int)) then
      (flotsamref02_Get (a0.1.getD a1.toNat 0, ())).bind fun y2 =>
      bif !y2.2.1 then
        some ((false, false, 0, 0, ()), false, ())
      else
      bif !y2.1.1 then
        some ((false, false, 0, 0, ()), false, ())
      else
      bif decide ((wi64 (a1 + y2.1.2.2.2.1)) ≥ (wi64 ((wi64 (32 * (wi64 (a1.tdiv 32)))) + 32))) then
        some ((false, false, 0, 0, ()), false, ())
      else
      some (y2.1, true, ())
    else none
  else none
def flotsamref08_Get (x : Heap × Int × Unit) : Option (Hdr × Bool × Unit) := flotsamref08_Get_r x.1 x.2.1
noncomputable def flotsamref08_Get_sm : Sum := ⟨(.cons cHeap (.cons cI .nil)), (.cons (.d cHdr) (.cons (.d .bool) .nil)), flotsamref08_Get⟩
noncomputable def flotsamref08_Get_S : List (Nat × Sum) := [(48, flotsamref07_Find_sm), (59, flotsamref02_Get_sm)]
noncomputable def flotsamref08_Get_fl : List (Nat × Func) := []
noncomputable def flotsamref08_Get_es : List AE := []
theorem flotsamref08_Get_den : (fun x => denFun TEv (look1 flotsamref08_Get_S) (look1 flotsamref08_Get_fl) (annOf flotsamref08_Get_es) 8 72 Go.Proofs.Tryd.f72 flotsamref08_Get_sm.a flotsamref08_Get_sm.r x) = flotsamref08_Get_sm.F := by kernel_rfl
theorem flotsamref08_Get_sem : SemOf Go.Proofs.Tryd.prog 72 flotsamref08_Get_sm :=
  semMk teOk (sl := flotsamref08_Get_S) (all_cons flotsamref07_Find_sem (all_cons flotsamref02_Get_sem all_nil)) (fl := flotsamref08_Get_fl) (all_nil) (es := flotsamref08_Get_es) Go.Proofs.Tryd.func72 (by kernel_rfl) rfl (rng_none (by kernel_rfl) (by kernel_rfl)) (all_nil) rfl flotsamref08_Get_den

/-! ### flotsam/flotsamref08.List -/
def flotsamref08_List_s0r (v4 : Int) (c0 : Heap) (r64 : List Int) : Option (SRes (.cons cI (.cons cHeap (.cons (.sl cI) .nil))) (.cons (.sl cI) .nil) .nil) :=
  bif decide (v4 < (c0.1.length : Int)) then
    (flotsamref08_Get (c0, v4, ())).bind fun y1 =>
    bif y1.2.1 then
      bif decide ((r64.length + 1) * 8 ≤ 140737488355328) then
        some (.next (wi64 (v4 + 1), c0, r64 ++ [v4], ()))
      else none
    else
    some (.next (wi64 (v4 + 1), c0, r64, ()))
  else
  some (.fin (.out (r64, ())))
def flotsamref08_List_s0 (x : Int × Heap × (List Int) × Unit) : Option (SRes (.cons cI (.cons cHeap (.cons (.sl cI) .nil))) (.cons (.sl cI) .nil) .nil) := flotsamref08_List_s0r x.1 x.2.1 x.2.2.1
def flotsamref08_List_l0 (x : Int × Heap × (List Int) × Unit) : Option (LRes (.cons (.sl cI) .nil) .nil) := iterL (h := (.cons cI (.cons cHeap (.cons (.sl cI) .nil)))) (o := (.cons (.sl cI) .nil)) (r := .nil) flotsamref08_List_s0 9223372036854775808 x
def flotsamref08_List_r (a0 : Heap) : Option ((List Int) × Unit) :=
  (flotsamref08_List_l0 (0, a0, [], ())).bind fun s2 => match s2 with
  | .out s2 =>
    some (s2.1, ())
  | .ret s2 =>
    none
def flotsamref08_List (x : Heap × Unit) : Option ((List Int) × Unit) := flotsamref08_List_r x.1
noncomputable def flotsamref08_List_sm : Sum := ⟨(.cons cHeap .nil), (.cons (.own cI) .nil), flotsamref08_List⟩
noncomputable def flotsamref08_List_L0 : LoopSum := { hc := ⟨[], [1, 3, 4], [(.tmp 3, cI)], [], [0], [], 64⟩, h := ⟨[(1, (.pvar 0 [])), (3, (.row 64)), (4, (.d cI))], [(0, (.d cHeap))], [(64, cI, true)], 65⟩, xid := 0, oc := ⟨[], [3], [(.tmp 3, cI)], [], [], [], 64⟩, o := ⟨[(3, (.row 64))], [], [(64, cI, true)], 65⟩, rc := ⟨[], [], [], [], [64], [], 64⟩, r := ⟨[], [], [], 64⟩, F := flotsamref08_List_l0 }
noncomputable def flotsamref08_List_S : List (Nat × Sum) := [(72, flotsamref08_Get_sm)]
noncomputable def flotsamref08_List_fl : List (Nat × Func) := []
noncomputable def flotsamref08_List_es : List AE := [⟨8, 25, 0, 0, flotsamref08_List_L0⟩]
theorem flotsamref08_List_den0 : (fun x => denStep TEv (look1 flotsamref08_List_S) (look1 flotsamref08_List_fl) (annOf flotsamref08_List_es) 8 25 Go.Proofs.Tryd.f25.ntmps 0 (cat (bodyOf Go.Proofs.Tryd.f25) [true, true, false, true, false, false]) flotsamref08_List_L0 x) = flotsamref08_List_s0 := by kernel_rfl
theorem flotsamref08_List_den : (fun x => denFun TEv (look1 flotsamref08_List_S) (look1 flotsamref08_List_fl) (annOf flotsamref08_List_es) 8 25 Go.Proofs.Tryd.f25 flotsamref08_List_sm.a flotsamref08_List_sm.r x) = flotsamref08_List_sm.F := by kernel_rfl
theorem flotsamref08_List_ok0 : AEok Go.Proofs.Tryd.prog TEv (look1 flotsamref08_List_S) (look1 flotsamref08_List_fl) (annOf flotsamref08_List_es) ⟨8, 25, 0, 0, flotsamref08_List_L0⟩ := aeok_of 9223372036854775808 Go.Proofs.Tryd.func25 (by kernel_rfl) flotsamref08_List_den0 (by kernel_rfl)
theorem flotsamref08_List_sem : SemOf Go.Proofs.Tryd.prog 25 flotsamref08_List_sm :=
  semMk teOk (sl := flotsamref08_List_S) (all_cons flotsamref08_Get_sem all_nil) (fl := flotsamref08_List_fl) (all_nil) (es := flotsamref08_List_es) Go.Proofs.Tryd.func25 (by kernel_rfl) rfl (rng_none (by kernel_rfl) (by kernel_rfl)) (all_cons flotsamref08_List_ok0 (all_nil)) rfl flotsamref08_List_den

/-! ### flotsam/flotsamref08.Black -/
def flotsamref08_Black_r (a0 : Heap) (a1 : Int) : Option (Bool × Unit) :=
  (flotsamref08_Get (a0, a1, ())).bind fun y1 =>
  bif y1.2.1 then
    some (y1.1.2.1 == a0.2.2.1, ())
  else
  some (false, ())
def flotsamref08_Black (x : Heap × Int × Unit) : Option (Bool × Unit) := flotsamref08_Black_r x.1 x.2.1
noncomputable def flotsamref08_Black_sm : Sum := ⟨(.cons cHeap (.cons cI .nil)), (.cons (.d .bool) .nil), flotsamref08_Black⟩
noncomputable def flotsamref08_Black_S : List (Nat × Sum) := [(72, flotsamref08_Get_sm)]
noncomputable def flotsamref08_Black_fl : List (Nat × Func) := []
noncomputable def flotsamref08_Black_es : List AE := []
theorem flotsamref08_Black_den : (fun x => denFun TEv (look1 flotsamref08_Black_S) (look1 flotsamref08_Black_fl) (annOf flotsamref08_Black_es) 8 27 Go.Proofs.Tryd.f27 flotsamref08_Black_sm.a flotsamref08_Black_sm.r x) = flotsamref08_Black_sm.F := by kernel_rfl
theorem flotsamref08_Black_sem : SemOf Go.Proofs.Tryd.prog 27 flotsamref08_Black_sm :=
  semMk teOk (sl := flotsamref08_Black_S) (all_cons flotsamref08_Get_sem all_nil) (fl := flotsamref08_Black_fl) (all_nil) (es := flotsamref08_Black_es) Go.Proofs.Tryd.func27 (by kernel_rfl) rfl (rng_none (by kernel_rfl) (by kernel_rfl)) (all_nil) rfl flotsamref08_Black_den

/-! ### flotsam/flotsamref15.Black -/
def flotsamref15_Black_s0r (v5 : Int) (c0 : Heap) (r64 : List Int) (r112 : List Int) : Option (SRes (.cons cI (.cons cHeap (.cons (.sl cI) (.cons (.sl cI) .nil)))) (.cons (.sl cI) .nil) .nil) :=
  bif decide (v5 < (r64.length : Int)) then
    bif decide (0 ≤ v5) then
      bif decide (v5 < (r64.length : Int)) then
        (flotsamref08_Black (c0, r64.getD v5.toNat 0, ())).bind fun y2 =>
        bif y2.1 then
          bif decide (0 ≤ v5) then
            bif decide (v5 < (r64.length : Int)) then
              bif decide ((r112.length + 1) * 8 ≤ 140737488355328) then
                some (.next (wi64 (v5 + 1), c0, r64, r112 ++ [r64.getD v5.toNat 0], ()))
              else none
            else none
          else none
        else
        some (.next (wi64 (v5 + 1), c0, r64, r112, ()))
      else none
    else none
  else
  some (.fin (.out (r112, ())))
def flotsamref15_Black_s0 (x : Int × Heap × (List Int) × (List Int) × Unit) : Option (SRes (.cons cI (.cons cHeap (.cons (.sl cI) (.cons (.sl cI) .nil)))) (.cons (.sl cI) .nil) .nil) := flotsamref15_Black_s0r x.1 x.2.1 x.2.2.1 x.2.2.2.1
def flotsamref15_Black_l0 (x : Int × Heap × (List Int) × (List Int) × Unit) : Option (LRes (.cons (.sl cI) .nil) .nil) := iterL (h := (.cons cI (.cons cHeap (.cons (.sl cI) (.cons (.sl cI) .nil))))) (o := (.cons (.sl cI) .nil)) (r := .nil) flotsamref15_Black_s0 9223372036854775808 x
def flotsamref15_Black_r (a0 : Heap) : Option ((List Int) × Unit) :=
  (flotsamref08_List (a0, ())).bind fun y1 =>
  (flotsamref15_Black_l0 (0, a0, y1.1, [], ())).bind fun s3 => match s3 with
  | .out s3 =>
    some (s3.1, ())
  | .ret s3 =>
    none
def flotsamref15_Black (x : Heap × Unit) : Option ((List Int) × Unit) := flotsamref15_Black_r x.1
noncomputable def flotsamref15_Black_sm : Sum := ⟨(.cons cHeap .nil), (.cons (.own cI) .nil), flotsamref15_Black⟩
noncomputable def flotsamref15_Black_L0 : LoopSum := { hc := ⟨[], [1, 3, 4, 5], [(.tmp 3, cI)], [], [0], [64], 112⟩, h := ⟨[(1, (.pvar 0 [])), (3, (.row 112)), (4, (.row 64)), (5, (.d cI))], [(0, (.d cHeap))], [(64, cI, true), (112, cI, true)], 113⟩, xid := 0, oc := ⟨[], [3], [(.tmp 3, cI)], [], [], [], 112⟩, o := ⟨[(3, (.row 112))], [], [(112, cI, true)], 113⟩, rc := ⟨[], [], [], [], [112], [], 112⟩, r := ⟨[], [], [], 112⟩, F := flotsamref15_Black_l0 }
noncomputable def flotsamref15_Black_S : List (Nat × Sum) := [(25, flotsamref08_List_sm), (27, flotsamref08_Black_sm)]
noncomputable def flotsamref15_Black_fl : List (Nat × Func) := []
noncomputable def flotsamref15_Black_es : List AE := [⟨8, 70, 0, 0, flotsamref15_Black_L0⟩]
theorem flotsamref15_Black_den0 : (fun x => denStep TEv (look1 flotsamref15_Black_S) (look1 flotsamref15_Black_fl) (annOf flotsamref15_Black_es) 8 70 Go.Proofs.Tryd.f70.ntmps 0 (cat (bodyOf Go.Proofs.Tryd.f70) [true, true, true, false, true, false, false]) flotsamref15_Black_L0 x) = flotsamref15_Black_s0 := by kernel_rfl
theorem flotsamref15_Black_den : (fun x => denFun TEv (look1 flotsamref15_Black_S) (look1 flotsamref15_Black_fl) (annOf flotsamref15_Black_es) 8 70 Go.Proofs.Tryd.f70 flotsamref15_Black_sm.a flotsamref15_Black_sm.r x) = flotsamref15_Black_sm.F := by kernel_rfl
theorem flotsamref15_Black_ok0 : AEok Go.Proofs.Tryd.prog TEv (look1 flotsamref15_Black_S) (look1 flotsamref15_Black_fl) (annOf flotsamref15_Black_es) ⟨8, 70, 0, 0, flotsamref15_Black_L0⟩ := aeok_of 9223372036854775808 Go.Proofs.Tryd.func70 (by kernel_rfl) flotsamref15_Black_den0 (by kernel_rfl)
theorem flotsamref15_Black_sem : SemOf Go.Proofs.Tryd.prog 70 flotsamref15_Black_sm :=
  semMk teOk (sl := flotsamref15_Black_S) (all_cons flotsamref08_List_sem (all_cons flotsamref08_Black_sem all_nil)) (fl := flotsamref15_Black_fl) (all_nil) (es := flotsamref15_Black_es) Go.Proofs.Tryd.func70 (by kernel_rfl) rfl (rng_none (by kernel_rfl) (by kernel_rfl)) (all_cons flotsamref15_Black_ok0 (all_nil)) rfl flotsamref15_Black_den

/-! ### flotsam/flotsamlaw16.awake -/
def flotsamlaw16_awake_r  : Option (Bool × Unit) :=
  (flotsamlaw16_small ()).bind fun y1 =>
  (shade_Shade (y1.1, (1, [], ()), (2, 2, ()), ())).bind fun y2 =>
  (shade_Shade (y2.1, y2.2.1, (2, 0, ()), ())).bind fun y3 =>
  (shade_Shade (y3.1, y3.2.1, (2, 0, ()), ())).bind fun y4 =>
  (shade_All (y1.1, (0, [], ()), [(2, 0, ()), (2, 2, ())], ())).bind fun y5 =>
  bif !y2.2.2.1 then
    (flotsamref13_Same (y2.2.1, (1, [2], ()), ())).bind fun y6 =>
    bif y6.1 then
      bif y3.2.2.1 then
        (flotsamref13_Same (y3.2.1, y2.2.1, ())).bind fun y7 =>
        bif y7.1 then
          bif !y4.2.2.1 then
            bif y5.2.2.1 then
              (flotsamref15_Black (y3.1, ())).bind fun y8 =>
              bif (y8.1.length : Int) == 2 then
                (flotsamref15_Black (y5.1, ())).bind fun y9 =>
                bif (y9.1.length : Int) == 2 then
                  (flotsamref15_Black (y2.1, ())).bind fun y10 =>
                  (flotsamref08_Ints (y10.1, [2], ())).bind fun y11 =>
                  some (y11.1, ())
                else
                some (false, ())
              else
              some (false, ())
            else
            some (false, ())
          else
          some (false, ())
        else
        some (false, ())
      else
      some (false, ())
    else
    some (false, ())
  else
  some (false, ())
def flotsamlaw16_awake (x : Unit) : Option (Bool × Unit) := flotsamlaw16_awake_r 
noncomputable def flotsamlaw16_awake_sm : Sum := ⟨.nil, (.cons (.d .bool) .nil), flotsamlaw16_awake⟩
noncomputable def flotsamlaw16_awake_S : List (Nat × Sum) := [(24, shade_All_sm), (26, flotsamref08_Ints_sm), (32, flotsamref13_Same_sm), (68, flotsamlaw16_small_sm), (69, shade_Shade_sm), (70, flotsamref15_Black_sm)]
noncomputable def flotsamlaw16_awake_fl : List (Nat × Func) := []
noncomputable def flotsamlaw16_awake_es : List AE := []
theorem flotsamlaw16_awake_den : (fun x => denFun TEv (look1 flotsamlaw16_awake_S) (look1 flotsamlaw16_awake_fl) (annOf flotsamlaw16_awake_es) 8 20 Go.Proofs.Tryd.f20 flotsamlaw16_awake_sm.a flotsamlaw16_awake_sm.r x) = flotsamlaw16_awake_sm.F := by kernel_rfl
theorem flotsamlaw16_awake_sem : SemOf Go.Proofs.Tryd.prog 20 flotsamlaw16_awake_sm :=
  semMk teOk (sl := flotsamlaw16_awake_S) (all_cons shade_All_sem (all_cons flotsamref08_Ints_sem (all_cons flotsamref13_Same_sem (all_cons flotsamlaw16_small_sem (all_cons shade_Shade_sem (all_cons flotsamref15_Black_sem all_nil)))))) (fl := flotsamlaw16_awake_fl) (all_nil) (es := flotsamlaw16_awake_es) Go.Proofs.Tryd.func20 (by kernel_rfl) rfl (rng_none (by kernel_rfl) (by kernel_rfl)) (all_nil) rfl flotsamlaw16_awake_den
end Go.Proofs.YtdfhopakojmjkaaDoor.Den
