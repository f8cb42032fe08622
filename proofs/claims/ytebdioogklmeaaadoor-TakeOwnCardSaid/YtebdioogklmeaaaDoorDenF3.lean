/- What functions come to. Printed by a program of this session. -/
import Derived.Test.YtebdioogklmeaaaDoorDenF2
namespace Go.Proofs.YtebdioogklmeaaaDoor.Den
open Go
set_option maxRecDepth 100000
set_option linter.unusedVariables false
/-! ### flotsam/flotsamref03.Without -/
def flotsamref03_Without_r (a0 : Int) (a1 : Int) : Option (Int × Unit) :=
  (flotsamref03_turned (a0, a1, false, ())).bind fun y1 =>
  some (y1.1, ())
def flotsamref03_Without (x : Int × Int × Unit) : Option (Int × Unit) := flotsamref03_Without_r x.1 x.2.1
noncomputable def flotsamref03_Without_sm : Sum := ⟨(.cons (.int .u32) (.cons cI .nil)), (.cons (.d (.int .u32)) .nil), flotsamref03_Without⟩
noncomputable def flotsamref03_Without_S : List (Nat × Sum) := [(94, flotsamref03_turned_sm)]
noncomputable def flotsamref03_Without_fl : List (Nat × Func) := []
noncomputable def flotsamref03_Without_es : List AE := []
theorem flotsamref03_Without_den : (fun x => denFun TEv (look1 flotsamref03_Without_S) (look1 flotsamref03_Without_fl) (annOf flotsamref03_Without_es) 8 87 Go.Proofs.Tryd.f87 flotsamref03_Without_sm.a flotsamref03_Without_sm.r x) = flotsamref03_Without_sm.F := by kernel_rfl
theorem flotsamref03_Without_sem : SemOf Go.Proofs.Tryd.prog 87 flotsamref03_Without_sm :=
  semMk teOk (sl := flotsamref03_Without_S) (all_cons flotsamref03_turned_sem all_nil) (fl := flotsamref03_Without_fl) (all_nil) (es := flotsamref03_Without_es) Go.Proofs.Tryd.func87 (by kernel_rfl) rfl (all_nil) rfl flotsamref03_Without_den

/-! ### flotsam/flotsamref06.Take -/
def flotsamref06_Take_s0r (v5 : Int) (c0 : Span) (c16 : Span) : Option (SRes (.cons cI (.cons cSpan (.cons cSpan .nil))) (.cons cSpan (.cons cSpan .nil)) (.cons cI (.cons .bool (.cons cSpan .nil)))) :=
  bif decide (v5 < 16) then
    bif c0.1 == 1 then
      (flotsamref03_Has (c0.2.2.1, v5, ())).bind fun y1 =>
      bif y1.1 then
        (flotsamref03_Without (c0.2.2.1, v5, ())).bind fun y2 =>
        some (.fin (.ret (v5, true, (c0.1, c0.2.1, y2.1, c0.2.2.2), ())))
      else
      some (.next (wi64 (v5 + 1), c0, c16, ()))
    else
    some (.fin (.out (c0, c16, ())))
  else
  some (.fin (.out (c0, c16, ())))
def flotsamref06_Take_s0 (x : Int × Span × Span × Unit) : Option (SRes (.cons cI (.cons cSpan (.cons cSpan .nil))) (.cons cSpan (.cons cSpan .nil)) (.cons cI (.cons .bool (.cons cSpan .nil)))) := flotsamref06_Take_s0r x.1 x.2.1 x.2.2.1
def flotsamref06_Take_l0 (x : Int × Span × Span × Unit) : Option (LRes (.cons cSpan (.cons cSpan .nil)) (.cons cI (.cons .bool (.cons cSpan .nil)))) := iterL (h := (.cons cI (.cons cSpan (.cons cSpan .nil)))) (o := (.cons cSpan (.cons cSpan .nil))) (r := (.cons cI (.cons .bool (.cons cSpan .nil)))) flotsamref06_Take_s0 9223372036854775808 x
def flotsamref06_Take_r (a0 : Span) : Option (Span × Int × Bool × Unit) :=
  (flotsamref06_Take_l0 (0, a0, (0, 0, 0, ()), ())).bind fun s3 => match s3 with
  | .out s3 =>
    some (s3.1, 0, false, ())
  | .ret s3 =>
    some (s3.2.2.1, s3.1, s3.2.1, ())
def flotsamref06_Take (x : Span × Unit) : Option (Span × Int × Bool × Unit) := flotsamref06_Take_r x.1
noncomputable def flotsamref06_Take_sm : Sum := ⟨(.cons cSpan .nil), (.cons (.d cSpan) (.cons (.d cI) (.cons (.d .bool) .nil))), flotsamref06_Take⟩
noncomputable def flotsamref06_Take_L0 : LoopSum := { hc := ⟨[], [1, 2, 5], [], [], [0, 16], [], 80⟩, h := ⟨[(1, (.pvar 0 [])), (2, (.pvar 16 [])), (5, (.d cI))], [(0, (.d cSpan)), (16, (.d cSpan))], [], 80⟩, xid := 0, oc := ⟨[], [1, 2], [], [], [0, 16], [], 80⟩, o := ⟨[(1, (.pvar 0 [])), (2, (.pvar 16 []))], [(0, (.d cSpan)), (16, (.d cSpan))], [], 80⟩, rc := ⟨[], [2, 3, 4], [], [], [16], [], 80⟩, r := ⟨[(2, (.pvar 16 [])), (3, (.d cI)), (4, (.d .bool))], [(16, (.d cSpan))], [], 80⟩, F := flotsamref06_Take_l0 }
noncomputable def flotsamref06_Take_S : List (Nat × Sum) := [(49, flotsamref03_Has_sm), (87, flotsamref03_Without_sm)]
noncomputable def flotsamref06_Take_fl : List (Nat × Func) := []
noncomputable def flotsamref06_Take_es : List AE := [⟨8, 67, 0, 0, flotsamref06_Take_L0⟩]
theorem flotsamref06_Take_den0 : (fun x => denStep TEv (look1 flotsamref06_Take_S) (look1 flotsamref06_Take_fl) (annOf flotsamref06_Take_es) 8 67 Go.Proofs.Tryd.f67.ntmps 0 (cat (bodyOf Go.Proofs.Tryd.f67) [true, false, true, false, false]) flotsamref06_Take_L0 x) = flotsamref06_Take_s0 := by kernel_rfl
theorem flotsamref06_Take_den : (fun x => denFun TEv (look1 flotsamref06_Take_S) (look1 flotsamref06_Take_fl) (annOf flotsamref06_Take_es) 8 67 Go.Proofs.Tryd.f67 flotsamref06_Take_sm.a flotsamref06_Take_sm.r x) = flotsamref06_Take_sm.F := by kernel_rfl
theorem flotsamref06_Take_ok0 : AEok Go.Proofs.Tryd.prog TEv (look1 flotsamref06_Take_S) (look1 flotsamref06_Take_fl) (annOf flotsamref06_Take_es) ⟨8, 67, 0, 0, flotsamref06_Take_L0⟩ := aeok_of 9223372036854775808 Go.Proofs.Tryd.func67 (by kernel_rfl) flotsamref06_Take_den0 (by kernel_rfl)
theorem flotsamref06_Take_sem : SemOf Go.Proofs.Tryd.prog 67 flotsamref06_Take_sm :=
  semMk teOk (sl := flotsamref06_Take_S) (all_cons flotsamref03_Has_sem (all_cons flotsamref03_Without_sem all_nil)) (fl := flotsamref06_Take_fl) (all_nil) (es := flotsamref06_Take_es) Go.Proofs.Tryd.func67 (by kernel_rfl) rfl (all_cons flotsamref06_Take_ok0 (all_nil)) rfl flotsamref06_Take_den

/-! ### flotsam/flotsamref05.Address -/
def flotsamref05_Address_r (a0 : Int) (a1 : Int) (a2 : Int) : Option (Int × Bool × Unit) :=
  bif decide (a0 < 0) then
    some (0, false, ())
  else
  bif decide (a0 > 15) then
    some (0, false, ())
  else
  bif decide (a2 < 0) then
    some (0, false, ())
  else
  (flotsamref04_Blocks (a1, ())).bind fun y1 =>
  bif decide (a2 ≥ y1.1) then
    some (0, false, ())
  else
  (flotsamref04_Words (a1, ())).bind fun y2 =>
  some (wi64 ((wi64 (32 * a0)) + (wi64 (a2 * y2.1))), true, ())
def flotsamref05_Address (x : Int × Int × Int × Unit) : Option (Int × Bool × Unit) := flotsamref05_Address_r x.1 x.2.1 x.2.2.1
noncomputable def flotsamref05_Address_sm : Sum := ⟨(.cons cI (.cons cI (.cons cI .nil))), (.cons (.d cI) (.cons (.d .bool) .nil)), flotsamref05_Address⟩
noncomputable def flotsamref05_Address_S : List (Nat × Sum) := [(45, flotsamref04_Blocks_sm), (47, flotsamref04_Words_sm)]
noncomputable def flotsamref05_Address_fl : List (Nat × Func) := []
noncomputable def flotsamref05_Address_es : List AE := []
theorem flotsamref05_Address_den : (fun x => denFun TEv (look1 flotsamref05_Address_S) (look1 flotsamref05_Address_fl) (annOf flotsamref05_Address_es) 8 68 Go.Proofs.Tryd.f68 flotsamref05_Address_sm.a flotsamref05_Address_sm.r x) = flotsamref05_Address_sm.F := by kernel_rfl
theorem flotsamref05_Address_sem : SemOf Go.Proofs.Tryd.prog 68 flotsamref05_Address_sm :=
  semMk teOk (sl := flotsamref05_Address_S) (all_cons flotsamref04_Blocks_sem (all_cons flotsamref04_Words_sem all_nil)) (fl := flotsamref05_Address_fl) (all_nil) (es := flotsamref05_Address_es) Go.Proofs.Tryd.func68 (by kernel_rfl) rfl (all_nil) rfl flotsamref05_Address_den

/-! ### flotsam/flotsamref07.Lay -/
def flotsamref07_Lay_s0r (v2 : Int) (v13 : Int) (v15 : Int) (c0 : Heap) (c16 : Bool × Unit) (c608 : Span) (c768 : Bool × Unit) (r752 : List Int) (r753 : List Span) : Option (SRes (.cons cI (.cons cI (.cons cI (.cons cHeap (.cons (.cons .bool .nil) (.cons cSpan (.cons (.cons .bool .nil) (.cons (.sl (.int .u64)) (.cons (.sl cSpan) .nil))))))))) (.cons cI (.cons cI (.cons cHeap (.cons (.cons .bool .nil) (.cons cSpan (.cons (.cons .bool .nil) (.cons (.sl (.int .u64)) (.cons (.sl cSpan) .nil)))))))) .nil) :=
  (flotsamref04_Words (c608.2.1, ())).bind fun y5 =>
  bif decide (v15 < y5.1) then
    bif decide (0 ≤ (wi64 (v13 + v15))) then
      bif decide ((wi64 (v13 + v15)) < (r752.length : Int)) then
        some (.next (v2, v13, wi64 (v15 + 1), c0, c16, c608, c768, r752.set (wi64 (v13 + v15)).toNat 0, r753, ()))
      else none
    else none
  else
  some (.fin (.out (v2, v13, c0, c16, c608, c768, r752, r753, ())))
def flotsamref07_Lay_s0 (x : Int × Int × Int × Heap × (Bool × Unit) × Span × (Bool × Unit) × (List Int) × (List Span) × Unit) : Option (SRes (.cons cI (.cons cI (.cons cI (.cons cHeap (.cons (.cons .bool .nil) (.cons cSpan (.cons (.cons .bool .nil) (.cons (.sl (.int .u64)) (.cons (.sl cSpan) .nil))))))))) (.cons cI (.cons cI (.cons cHeap (.cons (.cons .bool .nil) (.cons cSpan (.cons (.cons .bool .nil) (.cons (.sl (.int .u64)) (.cons (.sl cSpan) .nil)))))))) .nil) := flotsamref07_Lay_s0r x.1 x.2.1 x.2.2.1 x.2.2.2.1 x.2.2.2.2.1 x.2.2.2.2.2.1 x.2.2.2.2.2.2.1 x.2.2.2.2.2.2.2.1 x.2.2.2.2.2.2.2.2.1
def flotsamref07_Lay_l0 (x : Int × Int × Int × Heap × (Bool × Unit) × Span × (Bool × Unit) × (List Int) × (List Span) × Unit) : Option (LRes (.cons cI (.cons cI (.cons cHeap (.cons (.cons .bool .nil) (.cons cSpan (.cons (.cons .bool .nil) (.cons (.sl (.int .u64)) (.cons (.sl cSpan) .nil)))))))) .nil) := iterL (h := (.cons cI (.cons cI (.cons cI (.cons cHeap (.cons (.cons .bool .nil) (.cons cSpan (.cons (.cons .bool .nil) (.cons (.sl (.int .u64)) (.cons (.sl cSpan) .nil)))))))))) (o := (.cons cI (.cons cI (.cons cHeap (.cons (.cons .bool .nil) (.cons cSpan (.cons (.cons .bool .nil) (.cons (.sl (.int .u64)) (.cons (.sl cSpan) .nil))))))))) (r := .nil) flotsamref07_Lay_s0 9223372036854775808 x
def flotsamref07_Lay_r (a0 : Heap) (a1 : Int) (a2 : Int) : Option (Heap × Int × Bool × Unit) :=
  bif decide (a1 < 0) then
    some (a0, 0, false, ())
  else
  bif decide (a1 ≥ (a0.2.1.length : Int)) then
    some (a0, 0, false, ())
  else
  bif decide (a2 < 0) then
    some (a0, 0, false, ())
  else
  bif decide (0 ≤ a1) then
    bif decide (a1 < (a0.2.1.length : Int)) then
      (flotsamref04_Words ((a0.2.1.getD a1.toNat (0, 0, 0, ())).2.1, ())).bind fun y1 =>
      bif decide (a2 ≥ y1.1) then
        some (a0, 0, false, ())
      else
      bif decide (0 ≤ a1) then
        bif decide (a1 < (a0.2.1.length : Int)) then
          (flotsamref06_Take (a0.2.1.getD a1.toNat (0, 0, 0, ()), ())).bind fun y2 =>
          bif !y2.2.2.1 then
            some (a0, 0, false, ())
          else
          (flotsamref07_with (a0, a1, y2.1, ())).bind fun y3 =>
          (flotsamref05_Address (a1, y2.1.2.1, y2.2.1, ())).bind fun y4 =>
          (flotsamref07_Lay_l0 (a2, y4.1, 0, a0, (false, ()), y2.1, y3.1.2.2, y3.1.1, y3.1.2.1, ())).bind fun s6 => match s6 with
          | .out s6 =>
            (flotsamref02_Put ((true, s6.2.2.1.2.2.1, s6.2.2.2.2.1.2.1, s6.1, ()), ())).bind fun y7 =>
            bif decide (0 ≤ s6.2.1) then
              bif decide (s6.2.1 < (s6.2.2.2.2.2.2.1.length : Int)) then
                some ((s6.2.2.2.2.2.2.1.set s6.2.1.toNat y7.1, s6.2.2.2.2.2.2.2.1, s6.2.2.2.2.2.1), s6.2.1, true, ())
              else none
            else none
          | .ret s6 =>
            none
        else none
      else none
    else none
  else none
def flotsamref07_Lay (x : Heap × Int × Int × Unit) : Option (Heap × Int × Bool × Unit) := flotsamref07_Lay_r x.1 x.2.1 x.2.2.1
noncomputable def flotsamref07_Lay_sm : Sum := ⟨(.cons cHeap (.cons cI (.cons cI .nil))), (.cons (.d cHeap) (.cons (.d cI) (.cons (.d .bool) .nil))), flotsamref07_Lay⟩
noncomputable def flotsamref07_Lay_L0 : LoopSum := { hc := ⟨[], [2, 3, 6, 9, 12, 13, 15], [], [], [0, 16, 608, 768], [752, 753], 976⟩, h := ⟨[(2, (.d cI)), (3, (.pvar 0 [])), (6, (.pvar 16 [])), (9, (.pvar 608 [])), (12, (.pvar 768 [])), (13, (.d cI)), (15, (.d cI))], [(0, (.d cHeap)), (16, (.cons .nilsl (.cons .nilsl (.d (.cons .bool .nil))))), (608, (.d cSpan)), (768, (.cons (.row 752) (.cons (.row 753) (.d (.cons .bool .nil)))))], [(752, (.int .u64), true), (753, cSpan, true)], 976⟩, xid := 0, oc := ⟨[], [2, 3, 6, 9, 12, 13], [], [], [0, 16, 608, 768], [752, 753], 976⟩, o := ⟨[(2, (.d cI)), (3, (.pvar 0 [])), (6, (.pvar 16 [])), (9, (.pvar 608 [])), (12, (.pvar 768 [])), (13, (.d cI))], [(0, (.d cHeap)), (16, (.cons .nilsl (.cons .nilsl (.d (.cons .bool .nil))))), (608, (.d cSpan)), (768, (.cons (.row 752) (.cons (.row 753) (.d (.cons .bool .nil)))))], [(752, (.int .u64), true), (753, cSpan, true)], 976⟩, rc := ⟨[], [], [], [], [976], [], 976⟩, r := ⟨[], [], [], 976⟩, F := flotsamref07_Lay_l0 }
noncomputable def flotsamref07_Lay_S : List (Nat × Sum) := [(44, flotsamref02_Put_sm), (47, flotsamref04_Words_sm), (65, flotsamref07_with_sm), (67, flotsamref06_Take_sm), (68, flotsamref05_Address_sm)]
noncomputable def flotsamref07_Lay_fl : List (Nat × Func) := []
noncomputable def flotsamref07_Lay_es : List AE := [⟨8, 40, 0, 0, flotsamref07_Lay_L0⟩]
theorem flotsamref07_Lay_den0 : (fun x => denStep TEv (look1 flotsamref07_Lay_S) (look1 flotsamref07_Lay_fl) (annOf flotsamref07_Lay_es) 8 40 Go.Proofs.Tryd.f40.ntmps 0 (cat (bodyOf Go.Proofs.Tryd.f40) [true, true, true, true, true, true, false, true, false, false]) flotsamref07_Lay_L0 x) = flotsamref07_Lay_s0 := by kernel_rfl
theorem flotsamref07_Lay_den : (fun x => denFun TEv (look1 flotsamref07_Lay_S) (look1 flotsamref07_Lay_fl) (annOf flotsamref07_Lay_es) 8 40 Go.Proofs.Tryd.f40 flotsamref07_Lay_sm.a flotsamref07_Lay_sm.r x) = flotsamref07_Lay_sm.F := by kernel_rfl
theorem flotsamref07_Lay_ok0 : AEok Go.Proofs.Tryd.prog TEv (look1 flotsamref07_Lay_S) (look1 flotsamref07_Lay_fl) (annOf flotsamref07_Lay_es) ⟨8, 40, 0, 0, flotsamref07_Lay_L0⟩ := aeok_of 9223372036854775808 Go.Proofs.Tryd.func40 (by kernel_rfl) flotsamref07_Lay_den0 (by kernel_rfl)
theorem flotsamref07_Lay_sem : SemOf Go.Proofs.Tryd.prog 40 flotsamref07_Lay_sm :=
  semMk teOk (sl := flotsamref07_Lay_S) (all_cons flotsamref02_Put_sem (all_cons flotsamref04_Words_sem (all_cons flotsamref07_with_sem (all_cons flotsamref06_Take_sem (all_cons flotsamref05_Address_sem all_nil))))) (fl := flotsamref07_Lay_fl) (all_nil) (es := flotsamref07_Lay_es) Go.Proofs.Tryd.func40 (by kernel_rfl) rfl (all_cons flotsamref07_Lay_ok0 (all_nil)) rfl flotsamref07_Lay_den

/-! ### flotsam/flotsamref11.Take -/
def flotsamref11_Take_s0r (v1 : List (List Int)) (v2 : Int) (v12 : Int) (v14 : Int) (v19 : Int) (v22 : Int) (c16 : Bool × Unit) (c865 : Heap) (r864 : List (List Int)) : Option (SRes (.cons (.sl (.arr 4 cI)) (.cons cI (.cons cI (.cons cI (.cons cI (.cons cI (.cons (.cons .bool .nil) (.cons cHeap (.cons (.sl (.arr 4 cI)) .nil))))))))) (.cons cI (.cons (.cons .bool .nil) (.cons cHeap (.cons (.sl (.arr 4 cI)) .nil)))) .nil) :=
  bif decide (v22 < (v1.length : Int)) then
    bif decide (0 ≤ v22) then
      bif decide (v22 < (v1.length : Int)) then
        bif v22 == v2 then
          bif decide (0 ≤ v12) then
            bif decide (v12 < 4) then
              bif decide ((r864.length + 1) * 32 ≤ 140737488355328) then
                some (.next (v1, v2, v12, v14, v19, wi64 (v22 + 1), c16, c865, r864 ++ [(v1.getD v22.toNat (List.replicate 4 0)).set v12.toNat v14], ()))
              else none
            else none
          else none
        else
        bif decide ((r864.length + 1) * 32 ≤ 140737488355328) then
          some (.next (v1, v2, v12, v14, v19, wi64 (v22 + 1), c16, c865, r864 ++ [v1.getD v22.toNat (List.replicate 4 0)], ()))
        else none
      else none
    else none
  else
  some (.fin (.out (v19, c16, c865, r864, ())))
def flotsamref11_Take_s0 (x : (List (List Int)) × Int × Int × Int × Int × Int × (Bool × Unit) × Heap × (List (List Int)) × Unit) : Option (SRes (.cons (.sl (.arr 4 cI)) (.cons cI (.cons cI (.cons cI (.cons cI (.cons cI (.cons (.cons .bool .nil) (.cons cHeap (.cons (.sl (.arr 4 cI)) .nil))))))))) (.cons cI (.cons (.cons .bool .nil) (.cons cHeap (.cons (.sl (.arr 4 cI)) .nil)))) .nil) := flotsamref11_Take_s0r x.1 x.2.1 x.2.2.1 x.2.2.2.1 x.2.2.2.2.1 x.2.2.2.2.2.1 x.2.2.2.2.2.2.1 x.2.2.2.2.2.2.2.1 x.2.2.2.2.2.2.2.2.1
def flotsamref11_Take_l0 (x : (List (List Int)) × Int × Int × Int × Int × Int × (Bool × Unit) × Heap × (List (List Int)) × Unit) : Option (LRes (.cons cI (.cons (.cons .bool .nil) (.cons cHeap (.cons (.sl (.arr 4 cI)) .nil)))) .nil) := iterL (h := (.cons (.sl (.arr 4 cI)) (.cons cI (.cons cI (.cons cI (.cons cI (.cons cI (.cons (.cons .bool .nil) (.cons cHeap (.cons (.sl (.arr 4 cI)) .nil)))))))))) (o := (.cons cI (.cons (.cons .bool .nil) (.cons cHeap (.cons (.sl (.arr 4 cI)) .nil))))) (r := .nil) flotsamref11_Take_s0 9223372036854775808 x
def flotsamref11_Take_r (a0 : Heap) (a1 : List (List Int)) (a2 : Int) (a3 : Int) : Option (Heap × (List (List Int)) × Int × Bool × Unit) :=
  (flotsamref04_Of (a3, ())).bind fun y1 =>
  bif !y1.2.1 then
    some (a0, a1, 0, false, ())
  else
  (flotsamref11_Page (a0, a1, a2, y1.1, ())).bind fun y2 =>
  bif !y2.2.1 then
    some (a0, a1, 0, false, ())
  else
  (flotsamref07_Open (a0, y2.1, y1.1, ())).bind fun y3 =>
  bif !y3.2.1 then
    (flotsamref07_Lay (a0, y2.1, a3, ())).bind fun y4 =>
    (flotsamref11_Take_l0 (a1, a2, y1.1, y2.1, y4.2.1, 0, (false, ()), y4.1, [], ())).bind fun s5 => match s5 with
    | .out s5 =>
      some (s5.2.2.1, s5.2.2.2.1, s5.1, true, ())
    | .ret s5 =>
      none
  else
  (flotsamref07_Lay (y3.1, y2.1, a3, ())).bind fun y6 =>
  (flotsamref11_Take_l0 (a1, a2, y1.1, y2.1, y6.2.1, 0, (false, ()), y6.1, [], ())).bind fun s7 => match s7 with
  | .out s7 =>
    some (s7.2.2.1, s7.2.2.2.1, s7.1, true, ())
  | .ret s7 =>
    none
def flotsamref11_Take (x : Heap × (List (List Int)) × Int × Int × Unit) : Option (Heap × (List (List Int)) × Int × Bool × Unit) := flotsamref11_Take_r x.1 x.2.1 x.2.2.1 x.2.2.2.1
noncomputable def flotsamref11_Take_sm : Sum := ⟨(.cons cHeap (.cons (.sl (.arr 4 cI)) (.cons cI (.cons cI .nil)))), (.cons (.d cHeap) (.cons (.d (.sl (.arr 4 cI))) (.cons (.d cI) (.cons (.d .bool) .nil)))), flotsamref11_Take⟩
noncomputable def flotsamref11_Take_L0 : LoopSum := { hc := ⟨[], [1, 2, 8, 12, 14, 18, 19, 21, 22], [(.tmp 21, (.arr 4 cI))], [18], [16], [], 864⟩, h := ⟨[(1, (.d (.sl (.arr 4 cI)))), (2, (.d cI)), (8, (.pvar 16 [])), (12, (.d cI)), (14, (.d cI)), (18, (.pvar 865 [])), (19, (.d cI)), (21, (.row 864)), (22, (.d cI))], [(16, (.cons .nilsl (.cons .nilsl (.d (.cons .bool .nil))))), (865, (.d cHeap))], [(864, (.arr 4 cI), true)], 866⟩, xid := 0, oc := ⟨[], [8, 18, 19, 21], [(.tmp 21, (.arr 4 cI))], [18], [16], [], 864⟩, o := ⟨[(8, (.pvar 16 [])), (18, (.pvar 865 [])), (19, (.d cI)), (21, (.row 864))], [(16, (.cons .nilsl (.cons .nilsl (.d (.cons .bool .nil))))), (865, (.d cHeap))], [(864, (.arr 4 cI), true)], 866⟩, rc := ⟨[], [], [], [], [864], [], 864⟩, r := ⟨[], [], [], 864⟩, F := flotsamref11_Take_l0 }
noncomputable def flotsamref11_Take_S : List (Nat × Sum) := [(17, flotsamref11_Page_sm), (38, flotsamref04_Of_sm), (39, flotsamref07_Open_sm), (40, flotsamref07_Lay_sm)]
noncomputable def flotsamref11_Take_fl : List (Nat × Func) := []
noncomputable def flotsamref11_Take_es : List AE := [⟨8, 19, 0, 0, flotsamref11_Take_L0⟩]
theorem flotsamref11_Take_den0 : (fun x => denStep TEv (look1 flotsamref11_Take_S) (look1 flotsamref11_Take_fl) (annOf flotsamref11_Take_es) 8 19 Go.Proofs.Tryd.f19.ntmps 0 (cat (bodyOf Go.Proofs.Tryd.f19) [true, true, true, true, true, true, true, true, true, false, true, false, false]) flotsamref11_Take_L0 x) = flotsamref11_Take_s0 := by kernel_rfl
theorem flotsamref11_Take_den : (fun x => denFun TEv (look1 flotsamref11_Take_S) (look1 flotsamref11_Take_fl) (annOf flotsamref11_Take_es) 8 19 Go.Proofs.Tryd.f19 flotsamref11_Take_sm.a flotsamref11_Take_sm.r x) = flotsamref11_Take_sm.F := by kernel_rfl
theorem flotsamref11_Take_ok0 : AEok Go.Proofs.Tryd.prog TEv (look1 flotsamref11_Take_S) (look1 flotsamref11_Take_fl) (annOf flotsamref11_Take_es) ⟨8, 19, 0, 0, flotsamref11_Take_L0⟩ := aeok_of 9223372036854775808 Go.Proofs.Tryd.func19 (by kernel_rfl) flotsamref11_Take_den0 (by kernel_rfl)
theorem flotsamref11_Take_sem : SemOf Go.Proofs.Tryd.prog 19 flotsamref11_Take_sm :=
  semMk teOk (sl := flotsamref11_Take_S) (all_cons flotsamref11_Page_sem (all_cons flotsamref04_Of_sem (all_cons flotsamref07_Open_sem (all_cons flotsamref07_Lay_sem all_nil)))) (fl := flotsamref11_Take_fl) (all_nil) (es := flotsamref11_Take_es) Go.Proofs.Tryd.func19 (by kernel_rfl) rfl (all_cons flotsamref11_Take_ok0 (all_nil)) rfl flotsamref11_Take_den

/-! ### flotsam/flotsamref07.Find -/
def flotsamref07_Find_s0r (v1 : Int) (v7 : Int) (v8 : Int) (c0 : Heap) : Option (SRes (.cons cI (.cons cI (.cons cI (.cons cHeap .nil)))) (.cons cI (.cons cI (.cons cHeap .nil))) (.cons cI (.cons cI (.cons .bool .nil)))) :=
  bif decide (0 ≤ v7) then
    bif decide (v7 < (c0.2.1.length : Int)) then
      (flotsamref04_Blocks ((c0.2.1.getD v7.toNat (0, 0, 0, ())).2.1, ())).bind fun y1 =>
      bif decide (v8 < y1.1) then
        bif decide (0 ≤ v7) then
          bif decide (v7 < (c0.2.1.length : Int)) then
            (flotsamref04_Words ((c0.2.1.getD v7.toNat (0, 0, 0, ())).2.1, ())).bind fun y2 =>
            bif (wi64 ((wi64 (32 * v7)) + (wi64 (v8 * y2.1)))) == v1 then
              some (.fin (.ret (v7, v8, true, ())))
            else
            some (.next (v1, v7, wi64 (v8 + 1), c0, ()))
          else none
        else none
      else
      some (.fin (.out (v1, v7, c0, ())))
    else none
  else none
def flotsamref07_Find_s0 (x : Int × Int × Int × Heap × Unit) : Option (SRes (.cons cI (.cons cI (.cons cI (.cons cHeap .nil)))) (.cons cI (.cons cI (.cons cHeap .nil))) (.cons cI (.cons cI (.cons .bool .nil)))) := flotsamref07_Find_s0r x.1 x.2.1 x.2.2.1 x.2.2.2.1
def flotsamref07_Find_l0 (x : Int × Int × Int × Heap × Unit) : Option (LRes (.cons cI (.cons cI (.cons cHeap .nil))) (.cons cI (.cons cI (.cons .bool .nil)))) := iterL (h := (.cons cI (.cons cI (.cons cI (.cons cHeap .nil))))) (o := (.cons cI (.cons cI (.cons cHeap .nil)))) (r := (.cons cI (.cons cI (.cons .bool .nil)))) flotsamref07_Find_s0 9223372036854775808 x
def flotsamref07_Find_s1r (v1 : Int) (v7 : Int) (c0 : Heap) : Option (SRes (.cons cI (.cons cI (.cons cHeap .nil))) .nil (.cons cI (.cons cI (.cons .bool .nil)))) :=
  bif decide (v7 < (c0.2.1.length : Int)) then
    bif decide (0 ≤ v7) then
      bif decide (v7 < (c0.2.1.length : Int)) then
        bif (c0.2.1.getD v7.toNat (0, 0, 0, ())).1 == 0 then
          some (.next (v1, wi64 (v7 + 1), c0, ()))
        else
        (flotsamref07_Find_l0 (v1, v7, 0, c0, ())).bind fun s3 => match s3 with
        | .out s3 =>
          some (.next (s3.1, wi64 (s3.2.1 + 1), s3.2.2.1, ()))
        | .ret s3 =>
          some (.fin (.ret (s3.1, s3.2.1, s3.2.2.1, ())))
      else none
    else none
  else
  some (.fin (.out ()))
def flotsamref07_Find_s1 (x : Int × Int × Heap × Unit) : Option (SRes (.cons cI (.cons cI (.cons cHeap .nil))) .nil (.cons cI (.cons cI (.cons .bool .nil)))) := flotsamref07_Find_s1r x.1 x.2.1 x.2.2.1
def flotsamref07_Find_l1 (x : Int × Int × Heap × Unit) : Option (LRes .nil (.cons cI (.cons cI (.cons .bool .nil)))) := iterL (h := (.cons cI (.cons cI (.cons cHeap .nil)))) (o := .nil) (r := (.cons cI (.cons cI (.cons .bool .nil)))) flotsamref07_Find_s1 9223372036854775808 x
def flotsamref07_Find_r (a0 : Heap) (a1 : Int) : Option (Int × Int × Bool × Unit) :=
  (flotsamref07_Find_l1 (a1, 0, a0, ())).bind fun s4 => match s4 with
  | .out s4 =>
    some (0, 0, false, ())
  | .ret s4 =>
    some (s4.1, s4.2.1, s4.2.2.1, ())
def flotsamref07_Find (x : Heap × Int × Unit) : Option (Int × Int × Bool × Unit) := flotsamref07_Find_r x.1 x.2.1
noncomputable def flotsamref07_Find_sm : Sum := ⟨(.cons cHeap (.cons cI .nil)), (.cons (.d cI) (.cons (.d cI) (.cons (.d .bool) .nil))), flotsamref07_Find⟩
noncomputable def flotsamref07_Find_L0 : LoopSum := { hc := ⟨[], [1, 2, 7, 8], [], [], [0], [], 288⟩, h := ⟨[(1, (.d cI)), (2, (.pvar 0 [])), (7, (.d cI)), (8, (.d cI))], [(0, (.d cHeap))], [], 288⟩, xid := 2, oc := ⟨[], [1, 2, 7], [], [], [0], [], 288⟩, o := ⟨[(1, (.d cI)), (2, (.pvar 0 [])), (7, (.d cI))], [(0, (.d cHeap))], [], 288⟩, rc := ⟨[], [4, 5, 6], [], [], [], [], 288⟩, r := ⟨[(4, (.d cI)), (5, (.d cI)), (6, (.d .bool))], [], [], 288⟩, F := flotsamref07_Find_l0 }
noncomputable def flotsamref07_Find_L1 : LoopSum := { hc := ⟨[], [1, 2, 7], [], [], [0], [], 80⟩, h := ⟨[(1, (.d cI)), (2, (.pvar 0 [])), (7, (.d cI))], [(0, (.d cHeap))], [], 80⟩, xid := 0, oc := ⟨[], [], [], [], [], [], 80⟩, o := ⟨[], [], [], 80⟩, rc := ⟨[], [4, 5, 6], [], [], [], [], 80⟩, r := ⟨[(4, (.d cI)), (5, (.d cI)), (6, (.d .bool))], [], [], 80⟩, F := flotsamref07_Find_l1 }
noncomputable def flotsamref07_Find_S : List (Nat × Sum) := [(45, flotsamref04_Blocks_sm), (47, flotsamref04_Words_sm)]
noncomputable def flotsamref07_Find_fl : List (Nat × Func) := []
noncomputable def flotsamref07_Find_es : List AE := [⟨8, 69, 0, 2, flotsamref07_Find_L0⟩, ⟨8, 69, 0, 0, flotsamref07_Find_L1⟩]
theorem flotsamref07_Find_den0 : (fun x => denStep TEv (look1 flotsamref07_Find_S) (look1 flotsamref07_Find_fl) (annOf flotsamref07_Find_es) 8 69 Go.Proofs.Tryd.f69.ntmps 0 (cat (bodyOf Go.Proofs.Tryd.f69) [true, false, true, false, false, true, false, false, true, true, false, false]) flotsamref07_Find_L0 x) = flotsamref07_Find_s0 := by kernel_rfl
theorem flotsamref07_Find_den1 : (fun x => denStep TEv (look1 flotsamref07_Find_S) (look1 flotsamref07_Find_fl) (annOf flotsamref07_Find_es) 8 69 Go.Proofs.Tryd.f69.ntmps 0 (cat (bodyOf Go.Proofs.Tryd.f69) [true, false, true, false, false]) flotsamref07_Find_L1 x) = flotsamref07_Find_s1 := by kernel_rfl
theorem flotsamref07_Find_den : (fun x => denFun TEv (look1 flotsamref07_Find_S) (look1 flotsamref07_Find_fl) (annOf flotsamref07_Find_es) 8 69 Go.Proofs.Tryd.f69 flotsamref07_Find_sm.a flotsamref07_Find_sm.r x) = flotsamref07_Find_sm.F := by kernel_rfl
theorem flotsamref07_Find_ok0 : AEok Go.Proofs.Tryd.prog TEv (look1 flotsamref07_Find_S) (look1 flotsamref07_Find_fl) (annOf flotsamref07_Find_es) ⟨8, 69, 0, 2, flotsamref07_Find_L0⟩ := aeok_of 9223372036854775808 Go.Proofs.Tryd.func69 (by kernel_rfl) flotsamref07_Find_den0 (by kernel_rfl)
theorem flotsamref07_Find_ok1 : AEok Go.Proofs.Tryd.prog TEv (look1 flotsamref07_Find_S) (look1 flotsamref07_Find_fl) (annOf flotsamref07_Find_es) ⟨8, 69, 0, 0, flotsamref07_Find_L1⟩ := aeok_of 9223372036854775808 Go.Proofs.Tryd.func69 (by kernel_rfl) flotsamref07_Find_den1 (by kernel_rfl)
theorem flotsamref07_Find_sem : SemOf Go.Proofs.Tryd.prog 69 flotsamref07_Find_sm :=
  semMk teOk (sl := flotsamref07_Find_S) (all_cons flotsamref04_Blocks_sem (all_cons flotsamref04_Words_sem all_nil)) (fl := flotsamref07_Find_fl) (all_nil) (es := flotsamref07_Find_es) Go.Proofs.Tryd.func69 (by kernel_rfl) rfl (all_cons flotsamref07_Find_ok0 (all_cons flotsamref07_Find_ok1 (all_nil))) rfl flotsamref07_Find_den

/-! ### flotsam/flotsamref06.InUse -/
def flotsamref06_InUse_r (a0 : Span) : Option (Bool × Unit) :=
  bif a0.1 == 1 then
    some (true, ())
  else
  some (a0.1 == 2, ())
def flotsamref06_InUse (x : Span × Unit) : Option (Bool × Unit) := flotsamref06_InUse_r x.1
noncomputable def flotsamref06_InUse_sm : Sum := ⟨(.cons cSpan .nil), (.cons (.d .bool) .nil), flotsamref06_InUse⟩
noncomputable def flotsamref06_InUse_S : List (Nat × Sum) := []
noncomputable def flotsamref06_InUse_fl : List (Nat × Func) := []
noncomputable def flotsamref06_InUse_es : List AE := []
theorem flotsamref06_InUse_den : (fun x => denFun TEv (look1 flotsamref06_InUse_S) (look1 flotsamref06_InUse_fl) (annOf flotsamref06_InUse_es) 8 48 Go.Proofs.Tryd.f48 flotsamref06_InUse_sm.a flotsamref06_InUse_sm.r x) = flotsamref06_InUse_sm.F := by kernel_rfl
theorem flotsamref06_InUse_sem : SemOf Go.Proofs.Tryd.prog 48 flotsamref06_InUse_sm :=
  semMk teOk (sl := flotsamref06_InUse_S) (all_nil) (fl := flotsamref06_InUse_fl) (all_nil) (es := flotsamref06_InUse_es) Go.Proofs.Tryd.func48 (by kernel_rfl) rfl (all_nil) rfl flotsamref06_InUse_den

/-! ### flotsam/flotsamref03.With -/
def flotsamref03_With_r (a0 : Int) (a1 : Int) : Option (Int × Unit) :=
  (flotsamref03_turned (a0, a1, true, ())).bind fun y1 =>
  some (y1.1, ())
def flotsamref03_With (x : Int × Int × Unit) : Option (Int × Unit) := flotsamref03_With_r x.1 x.2.1
noncomputable def flotsamref03_With_sm : Sum := ⟨(.cons (.int .u32) (.cons cI .nil)), (.cons (.d (.int .u32)) .nil), flotsamref03_With⟩
noncomputable def flotsamref03_With_S : List (Nat × Sum) := [(94, flotsamref03_turned_sm)]
noncomputable def flotsamref03_With_fl : List (Nat × Func) := []
noncomputable def flotsamref03_With_es : List AE := []
theorem flotsamref03_With_den : (fun x => denFun TEv (look1 flotsamref03_With_S) (look1 flotsamref03_With_fl) (annOf flotsamref03_With_es) 8 88 Go.Proofs.Tryd.f88 flotsamref03_With_sm.a flotsamref03_With_sm.r x) = flotsamref03_With_sm.F := by kernel_rfl
theorem flotsamref03_With_sem : SemOf Go.Proofs.Tryd.prog 88 flotsamref03_With_sm :=
  semMk teOk (sl := flotsamref03_With_S) (all_cons flotsamref03_turned_sem all_nil) (fl := flotsamref03_With_fl) (all_nil) (es := flotsamref03_With_es) Go.Proofs.Tryd.func88 (by kernel_rfl) rfl (all_nil) rfl flotsamref03_With_den

/-! ### flotsam/flotsamref06.Give -/
def flotsamref06_Give_r (a0 : Span) (a1 : Int) : Option (Span × Bool × Unit) :=
  (flotsamref06_InUse (a0, ())).bind fun y1 =>
  bif !y1.1 then
    some (a0, false, ())
  else
  bif decide (a1 < 0) then
    some (a0, false, ())
  else
  (flotsamref04_Blocks (a0.2.1, ())).bind fun y2 =>
  bif decide (a1 ≥ y2.1) then
    some (a0, false, ())
  else
  (flotsamref03_Has (a0.2.2.1, a1, ())).bind fun y3 =>
  bif y3.1 then
    some (a0, false, ())
  else
  (flotsamref03_With (a0.2.2.1, a1, ())).bind fun y4 =>
  some ((a0.1, a0.2.1, y4.1, a0.2.2.2), true, ())
def flotsamref06_Give (x : Span × Int × Unit) : Option (Span × Bool × Unit) := flotsamref06_Give_r x.1 x.2.1
noncomputable def flotsamref06_Give_sm : Sum := ⟨(.cons cSpan (.cons cI .nil)), (.cons (.d cSpan) (.cons (.d .bool) .nil)), flotsamref06_Give⟩
noncomputable def flotsamref06_Give_S : List (Nat × Sum) := [(45, flotsamref04_Blocks_sm), (48, flotsamref06_InUse_sm), (49, flotsamref03_Has_sm), (88, flotsamref03_With_sm)]
noncomputable def flotsamref06_Give_fl : List (Nat × Func) := []
noncomputable def flotsamref06_Give_es : List AE := []
theorem flotsamref06_Give_den : (fun x => denFun TEv (look1 flotsamref06_Give_S) (look1 flotsamref06_Give_fl) (annOf flotsamref06_Give_es) 8 70 Go.Proofs.Tryd.f70 flotsamref06_Give_sm.a flotsamref06_Give_sm.r x) = flotsamref06_Give_sm.F := by kernel_rfl
theorem flotsamref06_Give_sem : SemOf Go.Proofs.Tryd.prog 70 flotsamref06_Give_sm :=
  semMk teOk (sl := flotsamref06_Give_S) (all_cons flotsamref04_Blocks_sem (all_cons flotsamref06_InUse_sem (all_cons flotsamref03_Has_sem (all_cons flotsamref03_With_sem all_nil)))) (fl := flotsamref06_Give_fl) (all_nil) (es := flotsamref06_Give_es) Go.Proofs.Tryd.func70 (by kernel_rfl) rfl (all_nil) rfl flotsamref06_Give_den

/-! ### flotsam/flotsamref07.Free -/
def flotsamref07_Free_s0r (v1 : Int) (v12 : Int) (c16 : Bool × Unit) (c400 : Span) (c544 : Bool × Unit) (r528 : List Int) (r529 : List Span) : Option (SRes (.cons cI (.cons cI (.cons (.cons .bool .nil) (.cons cSpan (.cons (.cons .bool .nil) (.cons (.sl (.int .u64)) (.cons (.sl cSpan) .nil))))))) (.cons (.cons .bool .nil) (.cons (.cons .bool .nil) (.cons (.sl (.int .u64)) (.cons (.sl cSpan) .nil)))) .nil) :=
  (flotsamref04_Words (c400.2.1, ())).bind fun y4 =>
  bif decide (v12 < y4.1) then
    bif decide (0 ≤ (wi64 (v1 + v12))) then
      bif decide ((wi64 (v1 + v12)) < (r528.length : Int)) then
        some (.next (v1, wi64 (v12 + 1), c16, c400, c544, r528.set (wi64 (v1 + v12)).toNat 0, r529, ()))
      else none
    else none
  else
  some (.fin (.out (c16, c544, r528, r529, ())))
def flotsamref07_Free_s0 (x : Int × Int × (Bool × Unit) × Span × (Bool × Unit) × (List Int) × (List Span) × Unit) : Option (SRes (.cons cI (.cons cI (.cons (.cons .bool .nil) (.cons cSpan (.cons (.cons .bool .nil) (.cons (.sl (.int .u64)) (.cons (.sl cSpan) .nil))))))) (.cons (.cons .bool .nil) (.cons (.cons .bool .nil) (.cons (.sl (.int .u64)) (.cons (.sl cSpan) .nil)))) .nil) := flotsamref07_Free_s0r x.1 x.2.1 x.2.2.1 x.2.2.2.1 x.2.2.2.2.1 x.2.2.2.2.2.1 x.2.2.2.2.2.2.1
def flotsamref07_Free_l0 (x : Int × Int × (Bool × Unit) × Span × (Bool × Unit) × (List Int) × (List Span) × Unit) : Option (LRes (.cons (.cons .bool .nil) (.cons (.cons .bool .nil) (.cons (.sl (.int .u64)) (.cons (.sl cSpan) .nil)))) .nil) := iterL (h := (.cons cI (.cons cI (.cons (.cons .bool .nil) (.cons cSpan (.cons (.cons .bool .nil) (.cons (.sl (.int .u64)) (.cons (.sl cSpan) .nil)))))))) (o := (.cons (.cons .bool .nil) (.cons (.cons .bool .nil) (.cons (.sl (.int .u64)) (.cons (.sl cSpan) .nil))))) (r := .nil) flotsamref07_Free_s0 9223372036854775808 x
def flotsamref07_Free_r (a0 : Heap) (a1 : Int) : Option (Heap × Bool × Unit) :=
  (flotsamref07_Find (a0, a1, ())).bind fun y1 =>
  bif !y1.2.2.1 then
    some (a0, false, ())
  else
  bif decide (0 ≤ y1.1) then
    bif decide (y1.1 < (a0.2.1.length : Int)) then
      (flotsamref06_Give (a0.2.1.getD y1.1.toNat (0, 0, 0, ()), y1.2.1, ())).bind fun y2 =>
      bif !y2.2.1 then
        some (a0, false, ())
      else
      (flotsamref07_with (a0, y1.1, y2.1, ())).bind fun y3 =>
      (flotsamref07_Free_l0 (a1, 0, (false, ()), y2.1, y3.1.2.2, y3.1.1, y3.1.2.1, ())).bind fun s5 => match s5 with
      | .out s5 =>
        some ((s5.2.2.1, s5.2.2.2.1, s5.2.1), true, ())
      | .ret s5 =>
        none
    else none
  else none
def flotsamref07_Free (x : Heap × Int × Unit) : Option (Heap × Bool × Unit) := flotsamref07_Free_r x.1 x.2.1
noncomputable def flotsamref07_Free_sm : Sum := ⟨(.cons cHeap (.cons cI .nil)), (.cons (.d cHeap) (.cons (.d .bool) .nil)), flotsamref07_Free⟩
noncomputable def flotsamref07_Free_L0 : LoopSum := { hc := ⟨[], [1, 4, 9, 11, 12], [], [], [16, 400, 544], [528, 529], 592⟩, h := ⟨[(1, (.d cI)), (4, (.pvar 16 [])), (9, (.pvar 400 [])), (11, (.pvar 544 [])), (12, (.d cI))], [(16, (.cons .nilsl (.cons .nilsl (.d (.cons .bool .nil))))), (400, (.d cSpan)), (544, (.cons (.row 528) (.cons (.row 529) (.d (.cons .bool .nil)))))], [(528, (.int .u64), true), (529, cSpan, true)], 592⟩, xid := 0, oc := ⟨[], [4, 11], [], [], [16, 544], [528, 529], 592⟩, o := ⟨[(4, (.pvar 16 [])), (11, (.pvar 544 []))], [(16, (.cons .nilsl (.cons .nilsl (.d (.cons .bool .nil))))), (544, (.cons (.row 528) (.cons (.row 529) (.d (.cons .bool .nil)))))], [(528, (.int .u64), true), (529, cSpan, true)], 592⟩, rc := ⟨[], [], [], [], [592], [], 592⟩, r := ⟨[], [], [], 592⟩, F := flotsamref07_Free_l0 }
noncomputable def flotsamref07_Free_S : List (Nat × Sum) := [(47, flotsamref04_Words_sm), (65, flotsamref07_with_sm), (69, flotsamref07_Find_sm), (70, flotsamref06_Give_sm)]
noncomputable def flotsamref07_Free_fl : List (Nat × Func) := []
noncomputable def flotsamref07_Free_es : List AE := [⟨8, 42, 0, 0, flotsamref07_Free_L0⟩]
theorem flotsamref07_Free_den0 : (fun x => denStep TEv (look1 flotsamref07_Free_S) (look1 flotsamref07_Free_fl) (annOf flotsamref07_Free_es) 8 42 Go.Proofs.Tryd.f42.ntmps 0 (cat (bodyOf Go.Proofs.Tryd.f42) [true, true, true, true, true, true, false, true, false, false]) flotsamref07_Free_L0 x) = flotsamref07_Free_s0 := by kernel_rfl
theorem flotsamref07_Free_den : (fun x => denFun TEv (look1 flotsamref07_Free_S) (look1 flotsamref07_Free_fl) (annOf flotsamref07_Free_es) 8 42 Go.Proofs.Tryd.f42 flotsamref07_Free_sm.a flotsamref07_Free_sm.r x) = flotsamref07_Free_sm.F := by kernel_rfl
theorem flotsamref07_Free_ok0 : AEok Go.Proofs.Tryd.prog TEv (look1 flotsamref07_Free_S) (look1 flotsamref07_Free_fl) (annOf flotsamref07_Free_es) ⟨8, 42, 0, 0, flotsamref07_Free_L0⟩ := aeok_of 9223372036854775808 Go.Proofs.Tryd.func42 (by kernel_rfl) flotsamref07_Free_den0 (by kernel_rfl)
theorem flotsamref07_Free_sem : SemOf Go.Proofs.Tryd.prog 42 flotsamref07_Free_sm :=
  semMk teOk (sl := flotsamref07_Free_S) (all_cons flotsamref04_Words_sem (all_cons flotsamref07_with_sem (all_cons flotsamref07_Find_sem (all_cons flotsamref06_Give_sem all_nil)))) (fl := flotsamref07_Free_fl) (all_nil) (es := flotsamref07_Free_es) Go.Proofs.Tryd.func42 (by kernel_rfl) rfl (all_cons flotsamref07_Free_ok0 (all_nil)) rfl flotsamref07_Free_den

/-! ### flotsam/flotsamref11.Played -/
def flotsamref11_Played_s0r (v1 : Int) (v2 : List (Int × Int × Unit)) (v10 : Int) (c0 : Bool × Unit) (c128 : Bool × Unit) (r64 : List Int) (r96 : List Span) (r192 : List (List Int)) : Option (SRes (.cons cI (.cons (.sl (.cons cI (.cons cI .nil))) (.cons cI (.cons (.cons .bool .nil) (.cons (.cons .bool .nil) (.cons (.sl (.int .u64)) (.cons (.sl cSpan) (.cons (.sl (.arr 4 cI)) .nil)))))))) (.cons cI (.cons (.sl (.cons cI (.cons cI .nil))) (.cons (.cons .bool .nil) (.cons (.cons .bool .nil) (.cons (.sl (.int .u64)) (.cons (.sl cSpan) (.cons (.sl (.arr 4 cI)) .nil))))))) .nil) :=
  bif decide (v10 < v1) then
    bif decide ((r192.length + 1) * 32 ≤ 140737488355328) then
      some (.next (v1, v2, wi64 (v10 + 1), c0, c128, r64, r96, r192 ++ [([(-1), (-1), (-1), (-1)] : List Int)], ()))
    else none
  else
  some (.fin (.out (v1, v2, c0, c128, r64, r96, r192, ())))
def flotsamref11_Played_s0 (x : Int × (List (Int × Int × Unit)) × Int × (Bool × Unit) × (Bool × Unit) × (List Int) × (List Span) × (List (List Int)) × Unit) : Option (SRes (.cons cI (.cons (.sl (.cons cI (.cons cI .nil))) (.cons cI (.cons (.cons .bool .nil) (.cons (.cons .bool .nil) (.cons (.sl (.int .u64)) (.cons (.sl cSpan) (.cons (.sl (.arr 4 cI)) .nil)))))))) (.cons cI (.cons (.sl (.cons cI (.cons cI .nil))) (.cons (.cons .bool .nil) (.cons (.cons .bool .nil) (.cons (.sl (.int .u64)) (.cons (.sl cSpan) (.cons (.sl (.arr 4 cI)) .nil))))))) .nil) := flotsamref11_Played_s0r x.1 x.2.1 x.2.2.1 x.2.2.2.1 x.2.2.2.2.1 x.2.2.2.2.2.1 x.2.2.2.2.2.2.1 x.2.2.2.2.2.2.2.1
def flotsamref11_Played_l0 (x : Int × (List (Int × Int × Unit)) × Int × (Bool × Unit) × (Bool × Unit) × (List Int) × (List Span) × (List (List Int)) × Unit) : Option (LRes (.cons cI (.cons (.sl (.cons cI (.cons cI .nil))) (.cons (.cons .bool .nil) (.cons (.cons .bool .nil) (.cons (.sl (.int .u64)) (.cons (.sl cSpan) (.cons (.sl (.arr 4 cI)) .nil))))))) .nil) := iterL (h := (.cons cI (.cons (.sl (.cons cI (.cons cI .nil))) (.cons cI (.cons (.cons .bool .nil) (.cons (.cons .bool .nil) (.cons (.sl (.int .u64)) (.cons (.sl cSpan) (.cons (.sl (.arr 4 cI)) .nil))))))))) (o := (.cons cI (.cons (.sl (.cons cI (.cons cI .nil))) (.cons (.cons .bool .nil) (.cons (.cons .bool .nil) (.cons (.sl (.int .u64)) (.cons (.sl cSpan) (.cons (.sl (.arr 4 cI)) .nil)))))))) (r := .nil) flotsamref11_Played_s0 9223372036854775808 x
def flotsamref11_Played_s1r (v1 : Int) (v2 : List (Int × Int × Unit)) (v9 : List (List Int)) (v11 : Int) (v16 : Int) (v17 : Int) (c0 : Bool × Unit) (c128 : Heap) : Option (SRes (.cons cI (.cons (.sl (.cons cI (.cons cI .nil))) (.cons (.sl (.arr 4 cI)) (.cons cI (.cons cI (.cons cI (.cons (.cons .bool .nil) (.cons cHeap .nil)))))))) (.cons cI (.cons (.sl (.cons cI (.cons cI .nil))) (.cons (.sl (.arr 4 cI)) (.cons cI (.cons (.cons .bool .nil) (.cons cHeap .nil)))))) .nil) :=
  bif decide (v17 < (c128.1.length : Int)) then
    (flotsamref07_Free (c128, v17, ())).bind fun y3 =>
    bif y3.2.1 then
      bif decide (0 ≤ v11) then
        bif decide (v11 < (v2.length : Int)) then
          bif v16 == (v2.getD v11.toNat (0, 0, ())).2.1 then
            bif y3.2.1 then
              some (.next (v1, v2, v9, v11, wi64 (v16 + 1), wi64 (v17 + 2), c0, y3.1, ()))
            else
            some (.next (v1, v2, v9, v11, v16, wi64 (v17 + 2), c0, y3.1, ()))
          else
          bif y3.2.1 then
            some (.next (v1, v2, v9, v11, wi64 (v16 + 1), wi64 (v17 + 2), c0, c128, ()))
          else
          some (.next (v1, v2, v9, v11, v16, wi64 (v17 + 2), c0, c128, ()))
        else none
      else none
    else
    bif y3.2.1 then
      some (.next (v1, v2, v9, v11, wi64 (v16 + 1), wi64 (v17 + 2), c0, c128, ()))
    else
    some (.next (v1, v2, v9, v11, v16, wi64 (v17 + 2), c0, c128, ()))
  else
  some (.fin (.out (v1, v2, v9, v11, c0, c128, ())))
def flotsamref11_Played_s1 (x : Int × (List (Int × Int × Unit)) × (List (List Int)) × Int × Int × Int × (Bool × Unit) × Heap × Unit) : Option (SRes (.cons cI (.cons (.sl (.cons cI (.cons cI .nil))) (.cons (.sl (.arr 4 cI)) (.cons cI (.cons cI (.cons cI (.cons (.cons .bool .nil) (.cons cHeap .nil)))))))) (.cons cI (.cons (.sl (.cons cI (.cons cI .nil))) (.cons (.sl (.arr 4 cI)) (.cons cI (.cons (.cons .bool .nil) (.cons cHeap .nil)))))) .nil) := flotsamref11_Played_s1r x.1 x.2.1 x.2.2.1 x.2.2.2.1 x.2.2.2.2.1 x.2.2.2.2.2.1 x.2.2.2.2.2.2.1 x.2.2.2.2.2.2.2.1
def flotsamref11_Played_l1 (x : Int × (List (Int × Int × Unit)) × (List (List Int)) × Int × Int × Int × (Bool × Unit) × Heap × Unit) : Option (LRes (.cons cI (.cons (.sl (.cons cI (.cons cI .nil))) (.cons (.sl (.arr 4 cI)) (.cons cI (.cons (.cons .bool .nil) (.cons cHeap .nil)))))) .nil) := iterL (h := (.cons cI (.cons (.sl (.cons cI (.cons cI .nil))) (.cons (.sl (.arr 4 cI)) (.cons cI (.cons cI (.cons cI (.cons (.cons .bool .nil) (.cons cHeap .nil))))))))) (o := (.cons cI (.cons (.sl (.cons cI (.cons cI .nil))) (.cons (.sl (.arr 4 cI)) (.cons cI (.cons (.cons .bool .nil) (.cons cHeap .nil))))))) (r := .nil) flotsamref11_Played_s1 9223372036854775808 x
def flotsamref11_Played_s2r (v1 : Int) (v2 : List (Int × Int × Unit)) (v9 : List (List Int)) (v11 : Int) (c0 : Bool × Unit) (c128 : Heap) : Option (SRes (.cons cI (.cons (.sl (.cons cI (.cons cI .nil))) (.cons (.sl (.arr 4 cI)) (.cons cI (.cons (.cons .bool .nil) (.cons cHeap .nil)))))) (.cons (.sl (.arr 4 cI)) (.cons (.cons .bool .nil) (.cons cHeap .nil))) .nil) :=
  bif decide (v11 < (v2.length : Int)) then
    bif decide (0 ≤ v11) then
      bif decide (v11 < (v2.length : Int)) then
        bif decide ((v2.getD v11.toNat (0, 0, ())).1 ≥ 0) then
          bif decide (0 ≤ v11) then
            bif decide (v11 < (v2.length : Int)) then
              bif v1 == 0 then none else
              bif decide (0 ≤ v11) then
                bif decide (v11 < (v2.length : Int)) then
                  (flotsamref11_Take (c128, v9, (v2.getD v11.toNat (0, 0, ())).1.tmod v1, (v2.getD v11.toNat (0, 0, ())).2.1, ())).bind fun y2 =>
                  some (.next (v1, v2, y2.2.1, wi64 (v11 + 1), c0, y2.1, ()))
                else none
              else none
            else none
          else none
        else
        (flotsamref11_Played_l1 (v1, v2, v9, v11, 0, 0, c0, c128, ())).bind fun s4 => match s4 with
        | .out s4 =>
          some (.next (s4.1, s4.2.1, s4.2.2.1, wi64 (s4.2.2.2.1 + 1), s4.2.2.2.2.1, s4.2.2.2.2.2.1, ()))
        | .ret s4 =>
          none
      else none
    else none
  else
  some (.fin (.out (v9, c0, c128, ())))
def flotsamref11_Played_s2 (x : Int × (List (Int × Int × Unit)) × (List (List Int)) × Int × (Bool × Unit) × Heap × Unit) : Option (SRes (.cons cI (.cons (.sl (.cons cI (.cons cI .nil))) (.cons (.sl (.arr 4 cI)) (.cons cI (.cons (.cons .bool .nil) (.cons cHeap .nil)))))) (.cons (.sl (.arr 4 cI)) (.cons (.cons .bool .nil) (.cons cHeap .nil))) .nil) := flotsamref11_Played_s2r x.1 x.2.1 x.2.2.1 x.2.2.2.1 x.2.2.2.2.1 x.2.2.2.2.2.1
def flotsamref11_Played_l2 (x : Int × (List (Int × Int × Unit)) × (List (List Int)) × Int × (Bool × Unit) × Heap × Unit) : Option (LRes (.cons (.sl (.arr 4 cI)) (.cons (.cons .bool .nil) (.cons cHeap .nil))) .nil) := iterL (h := (.cons cI (.cons (.sl (.cons cI (.cons cI .nil))) (.cons (.sl (.arr 4 cI)) (.cons cI (.cons (.cons .bool .nil) (.cons cHeap .nil))))))) (o := (.cons (.sl (.arr 4 cI)) (.cons (.cons .bool .nil) (.cons cHeap .nil)))) (r := .nil) flotsamref11_Played_s2 9223372036854775808 x
def flotsamref11_Played_r (a0 : Int) (a1 : Int) (a2 : List (Int × Int × Unit)) : Option (Heap × (List (List Int)) × Unit) :=
  bif (wi64 (32 * a0)) == (wi64 (32 * a0)) then
    bif decide (0 ≤ (wi64 (32 * a0))) then
      bif decide ((wi64 (32 * a0)).toNat * 8 ≤ 140737488355328) then
        bif a0 == a0 then
          bif decide (0 ≤ a0) then
            bif decide (a0.toNat * 24 ≤ 140737488355328) then
              (flotsamref11_Played_l0 (a1, a2, 0, (false, ()), (false, ()), List.replicate (wi64 (32 * a0)).toNat (0 : Int), List.replicate a0.toNat ((0, 0, 0, ()) : Span), [], ())).bind fun s1 => match s1 with
              | .out s1 =>
                (flotsamref11_Played_l2 (s1.1, s1.2.1, s1.2.2.2.2.2.2.1, 0, s1.2.2.1, (s1.2.2.2.2.1, s1.2.2.2.2.2.1, s1.2.2.2.1), ())).bind fun s5 => match s5 with
                | .out s5 =>
                  some (s5.2.2.1, s5.1, ())
                | .ret s5 =>
                  none
              | .ret s1 =>
                none
            else none
          else none
        else none
      else none
    else none
  else none
def flotsamref11_Played (x : Int × Int × (List (Int × Int × Unit)) × Unit) : Option (Heap × (List (List Int)) × Unit) := flotsamref11_Played_r x.1 x.2.1 x.2.2.1
noncomputable def flotsamref11_Played_sm : Sum := ⟨(.cons cI (.cons cI (.cons (.sl (.cons cI (.cons cI .nil))) .nil))), (.cons (.d cHeap) (.cons (.d (.sl (.arr 4 cI))) .nil)), flotsamref11_Played⟩
noncomputable def flotsamref11_Played_L0 : LoopSum := { hc := ⟨[], [1, 2, 6, 8, 9, 10], [(.tmp 9, (.arr 4 cI))], [], [0, 128], [64, 96], 192⟩, h := ⟨[(1, (.d cI)), (2, (.d (.sl (.cons cI (.cons cI .nil))))), (6, (.pvar 0 [])), (8, (.pvar 128 [])), (9, (.row 192)), (10, (.d cI))], [(0, (.cons .nilsl (.cons .nilsl (.d (.cons .bool .nil))))), (128, (.cons (.row 64) (.cons (.row 96) (.d (.cons .bool .nil)))))], [(64, (.int .u64), true), (96, cSpan, true), (192, (.arr 4 cI), true)], 193⟩, xid := 0, oc := ⟨[], [1, 2, 6, 8, 9], [(.tmp 9, (.arr 4 cI))], [], [0, 128], [64, 96], 192⟩, o := ⟨[(1, (.d cI)), (2, (.d (.sl (.cons cI (.cons cI .nil))))), (6, (.pvar 0 [])), (8, (.pvar 128 [])), (9, (.row 192))], [(0, (.cons .nilsl (.cons .nilsl (.d (.cons .bool .nil))))), (128, (.cons (.row 64) (.cons (.row 96) (.d (.cons .bool .nil)))))], [(64, (.int .u64), true), (96, cSpan, true), (192, (.arr 4 cI), true)], 193⟩, rc := ⟨[], [], [], [], [192], [], 192⟩, r := ⟨[], [], [], 192⟩, F := flotsamref11_Played_l0 }
noncomputable def flotsamref11_Played_L1 : LoopSum := { hc := ⟨[], [1, 2, 6, 8, 9, 11, 16, 17], [], [], [0, 128], [], 401⟩, h := ⟨[(1, (.d cI)), (2, (.d (.sl (.cons cI (.cons cI .nil))))), (6, (.pvar 0 [])), (8, (.pvar 128 [])), (9, (.d (.sl (.arr 4 cI)))), (11, (.d cI)), (16, (.d cI)), (17, (.d cI))], [(0, (.cons .nilsl (.cons .nilsl (.d (.cons .bool .nil))))), (128, (.d cHeap))], [], 401⟩, xid := 4, oc := ⟨[], [1, 2, 6, 8, 9, 11], [], [], [0, 128], [], 401⟩, o := ⟨[(1, (.d cI)), (2, (.d (.sl (.cons cI (.cons cI .nil))))), (6, (.pvar 0 [])), (8, (.pvar 128 [])), (9, (.d (.sl (.arr 4 cI)))), (11, (.d cI))], [(0, (.cons .nilsl (.cons .nilsl (.d (.cons .bool .nil))))), (128, (.d cHeap))], [], 401⟩, rc := ⟨[], [], [], [], [401], [], 401⟩, r := ⟨[], [], [], 401⟩, F := flotsamref11_Played_l1 }
noncomputable def flotsamref11_Played_L2 : LoopSum := { hc := ⟨[(.tmp 9, (.sl (.arr 4 cI))), (.key 128 [], cHeap)], [1, 2, 6, 8, 9, 11], [], [], [0, 128], [], 209⟩, h := ⟨[(1, (.d cI)), (2, (.d (.sl (.cons cI (.cons cI .nil))))), (6, (.pvar 0 [])), (8, (.pvar 128 [])), (9, (.d (.sl (.arr 4 cI)))), (11, (.d cI))], [(0, (.cons .nilsl (.cons .nilsl (.d (.cons .bool .nil))))), (128, (.d cHeap))], [], 209⟩, xid := 2, oc := ⟨[], [6, 8, 9], [], [], [0, 128], [], 209⟩, o := ⟨[(6, (.pvar 0 [])), (8, (.pvar 128 [])), (9, (.d (.sl (.arr 4 cI))))], [(0, (.cons .nilsl (.cons .nilsl (.d (.cons .bool .nil))))), (128, (.d cHeap))], [], 209⟩, rc := ⟨[], [], [], [], [209], [], 209⟩, r := ⟨[], [], [], 209⟩, F := flotsamref11_Played_l2 }
noncomputable def flotsamref11_Played_S : List (Nat × Sum) := [(19, flotsamref11_Take_sm), (42, flotsamref07_Free_sm)]
noncomputable def flotsamref11_Played_fl : List (Nat × Func) := []
noncomputable def flotsamref11_Played_es : List AE := [⟨8, 22, 0, 0, flotsamref11_Played_L0⟩, ⟨8, 22, 0, 4, flotsamref11_Played_L1⟩, ⟨8, 22, 0, 2, flotsamref11_Played_L2⟩]
theorem flotsamref11_Played_den0 : (fun x => denStep TEv (look1 flotsamref11_Played_S) (look1 flotsamref11_Played_fl) (annOf flotsamref11_Played_es) 8 22 Go.Proofs.Tryd.f22.ntmps 0 (cat (bodyOf Go.Proofs.Tryd.f22) [true, true, true, false, true, false, false]) flotsamref11_Played_L0 x) = flotsamref11_Played_s0 := by kernel_rfl
theorem flotsamref11_Played_den1 : (fun x => denStep TEv (look1 flotsamref11_Played_S) (look1 flotsamref11_Played_fl) (annOf flotsamref11_Played_es) 8 22 Go.Proofs.Tryd.f22.ntmps 0 (cat (bodyOf Go.Proofs.Tryd.f22) [true, true, true, true, false, true, false, false, true, false, false, true, true, true, false, false]) flotsamref11_Played_L1 x) = flotsamref11_Played_s1 := by kernel_rfl
theorem flotsamref11_Played_den2 : (fun x => denStep TEv (look1 flotsamref11_Played_S) (look1 flotsamref11_Played_fl) (annOf flotsamref11_Played_es) 8 22 Go.Proofs.Tryd.f22.ntmps 0 (cat (bodyOf Go.Proofs.Tryd.f22) [true, true, true, true, false, true, false, false]) flotsamref11_Played_L2 x) = flotsamref11_Played_s2 := by kernel_rfl
theorem flotsamref11_Played_den : (fun x => denFun TEv (look1 flotsamref11_Played_S) (look1 flotsamref11_Played_fl) (annOf flotsamref11_Played_es) 8 22 Go.Proofs.Tryd.f22 flotsamref11_Played_sm.a flotsamref11_Played_sm.r x) = flotsamref11_Played_sm.F := by kernel_rfl
theorem flotsamref11_Played_ok0 : AEok Go.Proofs.Tryd.prog TEv (look1 flotsamref11_Played_S) (look1 flotsamref11_Played_fl) (annOf flotsamref11_Played_es) ⟨8, 22, 0, 0, flotsamref11_Played_L0⟩ := aeok_of 9223372036854775808 Go.Proofs.Tryd.func22 (by kernel_rfl) flotsamref11_Played_den0 (by kernel_rfl)
theorem flotsamref11_Played_ok1 : AEok Go.Proofs.Tryd.prog TEv (look1 flotsamref11_Played_S) (look1 flotsamref11_Played_fl) (annOf flotsamref11_Played_es) ⟨8, 22, 0, 4, flotsamref11_Played_L1⟩ := aeok_of 9223372036854775808 Go.Proofs.Tryd.func22 (by kernel_rfl) flotsamref11_Played_den1 (by kernel_rfl)
theorem flotsamref11_Played_ok2 : AEok Go.Proofs.Tryd.prog TEv (look1 flotsamref11_Played_S) (look1 flotsamref11_Played_fl) (annOf flotsamref11_Played_es) ⟨8, 22, 0, 2, flotsamref11_Played_L2⟩ := aeok_of 9223372036854775808 Go.Proofs.Tryd.func22 (by kernel_rfl) flotsamref11_Played_den2 (by kernel_rfl)
theorem flotsamref11_Played_sem : SemOf Go.Proofs.Tryd.prog 22 flotsamref11_Played_sm :=
  semMk teOk (sl := flotsamref11_Played_S) (all_cons flotsamref11_Take_sem (all_cons flotsamref07_Free_sem all_nil)) (fl := flotsamref11_Played_fl) (all_nil) (es := flotsamref11_Played_es) Go.Proofs.Tryd.func22 (by kernel_rfl) rfl (all_cons flotsamref11_Played_ok0 (all_cons flotsamref11_Played_ok1 (all_cons flotsamref11_Played_ok2 (all_nil)))) rfl flotsamref11_Played_den
end Go.Proofs.YtebdioogklmeaaaDoor.Den
