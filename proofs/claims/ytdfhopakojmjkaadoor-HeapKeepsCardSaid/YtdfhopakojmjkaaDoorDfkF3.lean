/- What functions come to. Printed by a program of this session. -/
import Derived.Test.YtdfhopakojmjkaaDoorDfkF2
namespace Go.Proofs.YtdfhopakojmjkaaDoor.Dfk
open Go
set_option maxRecDepth 100000
set_option linter.unusedVariables false
/-! ### flotsam/flotsamref03.turned -/
def flotsamref03_turned_s0r (v0 : Int) (v1 : Int) (v2 : Bool) (v8 : Int) (c16 : List Bool) : Option (SRes (.cons (.int .u32) (.cons cI (.cons .bool (.cons cI (.cons (.arr 32 .bool) .nil))))) (.cons cI (.cons .bool (.cons (.arr 32 .bool) .nil))) .nil) :=
  bif decide (v8 < 32) then
    (flotsamref03_Has (v0, v8, ())).bind fun y1 =>
    bif decide (0 ≤ v8) then
      bif decide (v8 < 32) then
        some (.next (v0, v1, v2, wi64 (v8 + 1), c16.set v8.toNat y1.1, ()))
      else none
    else none
  else
  some (.fin (.out (v1, v2, c16, ())))
def flotsamref03_turned_s0 (x : Int × Int × Bool × Int × (List Bool) × Unit) : Option (SRes (.cons (.int .u32) (.cons cI (.cons .bool (.cons cI (.cons (.arr 32 .bool) .nil))))) (.cons cI (.cons .bool (.cons (.arr 32 .bool) .nil))) .nil) := flotsamref03_turned_s0r x.1 x.2.1 x.2.2.1 x.2.2.2.1 x.2.2.2.2.1
def flotsamref03_turned_l0 (x : Int × Int × Bool × Int × (List Bool) × Unit) : Option (LRes (.cons cI (.cons .bool (.cons (.arr 32 .bool) .nil))) .nil) := iterL (h := (.cons (.int .u32) (.cons cI (.cons .bool (.cons cI (.cons (.arr 32 .bool) .nil)))))) (o := (.cons cI (.cons .bool (.cons (.arr 32 .bool) .nil)))) (r := .nil) flotsamref03_turned_s0 9223372036854775808 x
def flotsamref03_turned_r (a0 : Int) (a1 : Int) (a2 : Bool) : Option (Int × Unit) :=
  (flotsamref03_turned_l0 (a0, a1, a2, 0, List.replicate 32 false, ())).bind fun s2 => match s2 with
  | .out s2 =>
    bif decide (s2.1 ≥ 0) then
      bif decide (s2.1 < 32) then
        bif decide (0 ≤ s2.1) then
          bif decide (s2.1 < 32) then
            (flotsamref03_Of (s2.2.2.1.set s2.1.toNat s2.2.1, ())).bind fun y3 =>
            some (y3.1, ())
          else none
        else none
      else
      (flotsamref03_Of (s2.2.2.1, ())).bind fun y4 =>
      some (y4.1, ())
    else
    (flotsamref03_Of (s2.2.2.1, ())).bind fun y5 =>
    some (y5.1, ())
  | .ret s2 =>
    none
def flotsamref03_turned (x : Int × Int × Bool × Unit) : Option (Int × Unit) := flotsamref03_turned_r x.1 x.2.1 x.2.2.1
noncomputable def flotsamref03_turned_sm : Sum := ⟨(.cons (.int .u32) (.cons cI (.cons .bool .nil))), (.cons (.d (.int .u32)) .nil), flotsamref03_turned⟩
noncomputable def flotsamref03_turned_L0 : LoopSum := { hc := ⟨[], [0, 1, 2, 7, 8], [], [], [16], [], 48⟩, h := ⟨[(0, (.d (.int .u32))), (1, (.d cI)), (2, (.d .bool)), (7, (.pvar 16 [])), (8, (.d cI))], [(16, (.d (.arr 32 .bool)))], [], 48⟩, xid := 0, oc := ⟨[], [1, 2, 7], [], [], [16], [], 48⟩, o := ⟨[(1, (.d cI)), (2, (.d .bool)), (7, (.pvar 16 []))], [(16, (.d (.arr 32 .bool)))], [], 48⟩, rc := ⟨[], [], [], [], [], [], 48⟩, r := ⟨[], [], [], 48⟩, F := flotsamref03_turned_l0 }
noncomputable def flotsamref03_turned_S : List (Nat × Sum) := [(137, flotsamref03_Has_sm), (154, flotsamref03_Of_sm)]
noncomputable def flotsamref03_turned_fl : List (Nat × Func) := []
noncomputable def flotsamref03_turned_es : List AE := [⟨8, 171, 0, 0, flotsamref03_turned_L0⟩]
theorem flotsamref03_turned_den0 : (fun x => denStep TEv (look1 flotsamref03_turned_S) (look1 flotsamref03_turned_fl) (annOf flotsamref03_turned_es) 8 171 Go.Proofs.Tryd.f171.ntmps 0 (cat (bodyOf Go.Proofs.Tryd.f171) [true, true, false, true, false, false]) flotsamref03_turned_L0 x) = flotsamref03_turned_s0 := by kernel_rfl
theorem flotsamref03_turned_den : (fun x => denFun TEv (look1 flotsamref03_turned_S) (look1 flotsamref03_turned_fl) (annOf flotsamref03_turned_es) 8 171 Go.Proofs.Tryd.f171 flotsamref03_turned_sm.a flotsamref03_turned_sm.r x) = flotsamref03_turned_sm.F := by kernel_rfl
theorem flotsamref03_turned_ok0 : AEok Go.Proofs.Tryd.prog TEv (look1 flotsamref03_turned_S) (look1 flotsamref03_turned_fl) (annOf flotsamref03_turned_es) ⟨8, 171, 0, 0, flotsamref03_turned_L0⟩ := aeok_of 9223372036854775808 Go.Proofs.Tryd.func171 (by kernel_rfl) flotsamref03_turned_den0 (by kernel_rfl)
theorem flotsamref03_turned_sem : SemOf Go.Proofs.Tryd.prog 171 flotsamref03_turned_sm :=
  semMk teOk (sl := flotsamref03_turned_S) (all_cons flotsamref03_Has_sem (all_cons flotsamref03_Of_sem all_nil)) (fl := flotsamref03_turned_fl) (all_nil) (es := flotsamref03_turned_es) Go.Proofs.Tryd.func171 (by kernel_rfl) rfl (all_cons flotsamref03_turned_ok0 (all_nil)) rfl flotsamref03_turned_den

/-! ### flotsam/flotsamref03.With -/
def flotsamref03_With_r (a0 : Int) (a1 : Int) : Option (Int × Unit) :=
  (flotsamref03_turned (a0, a1, true, ())).bind fun y1 =>
  some (y1.1, ())
def flotsamref03_With (x : Int × Int × Unit) : Option (Int × Unit) := flotsamref03_With_r x.1 x.2.1
noncomputable def flotsamref03_With_sm : Sum := ⟨(.cons (.int .u32) (.cons cI .nil)), (.cons (.d (.int .u32)) .nil), flotsamref03_With⟩
noncomputable def flotsamref03_With_S : List (Nat × Sum) := [(171, flotsamref03_turned_sm)]
noncomputable def flotsamref03_With_fl : List (Nat × Func) := []
noncomputable def flotsamref03_With_es : List AE := []
theorem flotsamref03_With_den : (fun x => denFun TEv (look1 flotsamref03_With_S) (look1 flotsamref03_With_fl) (annOf flotsamref03_With_es) 8 157 Go.Proofs.Tryd.f157 flotsamref03_With_sm.a flotsamref03_With_sm.r x) = flotsamref03_With_sm.F := by kernel_rfl
theorem flotsamref03_With_sem : SemOf Go.Proofs.Tryd.prog 157 flotsamref03_With_sm :=
  semMk teOk (sl := flotsamref03_With_S) (all_cons flotsamref03_turned_sem all_nil) (fl := flotsamref03_With_fl) (all_nil) (es := flotsamref03_With_es) Go.Proofs.Tryd.func157 (by kernel_rfl) rfl (all_nil) rfl flotsamref03_With_den

/-! ### flotsam/flotsamref06.Give -/
def flotsamref06_Give_r (a0 : Span) (a1 : Int) : Option (Span × Bool × Unit) :=
  (flotsamref06_InUse (a0, ())).bind fun y1 =>
  bif !y1.1 then
    some (a0, false, ())
  else
  bif decide (a1 < 0) then
    some (a0, false, ())
  else
  (flotsamref04_Blocks (a0.2.1, ())).bind fun y2 =>
  bif decide (a1 ≥ y2.1) then
    some (a0, false, ())
  else
  (flotsamref03_Has (a0.2.2.1, a1, ())).bind fun y3 =>
  bif y3.1 then
    some (a0, false, ())
  else
  (flotsamref03_With (a0.2.2.1, a1, ())).bind fun y4 =>
  some ((a0.1, a0.2.1, y4.1, a0.2.2.2), true, ())
def flotsamref06_Give (x : Span × Int × Unit) : Option (Span × Bool × Unit) := flotsamref06_Give_r x.1 x.2.1
noncomputable def flotsamref06_Give_sm : Sum := ⟨(.cons cSpan (.cons cI .nil)), (.cons (.d cSpan) (.cons (.d .bool) .nil)), flotsamref06_Give⟩
noncomputable def flotsamref06_Give_S : List (Nat × Sum) := [(99, flotsamref04_Blocks_sm), (136, flotsamref06_InUse_sm), (137, flotsamref03_Has_sm), (157, flotsamref03_With_sm)]
noncomputable def flotsamref06_Give_fl : List (Nat × Func) := []
noncomputable def flotsamref06_Give_es : List AE := []
theorem flotsamref06_Give_den : (fun x => denFun TEv (look1 flotsamref06_Give_S) (look1 flotsamref06_Give_fl) (annOf flotsamref06_Give_es) 8 113 Go.Proofs.Tryd.f113 flotsamref06_Give_sm.a flotsamref06_Give_sm.r x) = flotsamref06_Give_sm.F := by kernel_rfl
theorem flotsamref06_Give_sem : SemOf Go.Proofs.Tryd.prog 113 flotsamref06_Give_sm :=
  semMk teOk (sl := flotsamref06_Give_S) (all_cons flotsamref04_Blocks_sem (all_cons flotsamref06_InUse_sem (all_cons flotsamref03_Has_sem (all_cons flotsamref03_With_sem all_nil)))) (fl := flotsamref06_Give_fl) (all_nil) (es := flotsamref06_Give_es) Go.Proofs.Tryd.func113 (by kernel_rfl) rfl (all_nil) rfl flotsamref06_Give_den

/-! ### flotsam/flotsamref07.Free -/
def flotsamref07_Free_s0r (v1 : Int) (v12 : Int) (c16 : Bool × Unit) (c400 : Span) (c544 : Bool × Unit) (r528 : List Int) (r529 : List Span) : Option (SRes (.cons cI (.cons cI (.cons (.cons .bool .nil) (.cons cSpan (.cons (.cons .bool .nil) (.cons (.sl (.int .u64)) (.cons (.sl cSpan) .nil))))))) (.cons (.cons .bool .nil) (.cons (.cons .bool .nil) (.cons (.sl (.int .u64)) (.cons (.sl cSpan) .nil)))) .nil) :=
  (flotsamref04_Words (c400.2.1, ())).bind fun y4 =>
  bif decide (v12 < y4.1) then
    bif decide (0 ≤ (wi64 (v1 + v12))) then
      bif decide ((wi64 (v1 + v12)) < (r528.length : Int)) then
        some (.next (v1, wi64 (v12 + 1), c16, c400, c544, r528.set (wi64 (v1 + v12)).toNat 0, r529, ()))
      else none
    else none
  else
  some (.fin (.out (c16, c544, r528, r529, ())))
def flotsamref07_Free_s0 (x : Int × Int × (Bool × Unit) × Span × (Bool × Unit) × (List Int) × (List Span) × Unit) : Option (SRes (.cons cI (.cons cI (.cons (.cons .bool .nil) (.cons cSpan (.cons (.cons .bool .nil) (.cons (.sl (.int .u64)) (.cons (.sl cSpan) .nil))))))) (.cons (.cons .bool .nil) (.cons (.cons .bool .nil) (.cons (.sl (.int .u64)) (.cons (.sl cSpan) .nil)))) .nil) := flotsamref07_Free_s0r x.1 x.2.1 x.2.2.1 x.2.2.2.1 x.2.2.2.2.1 x.2.2.2.2.2.1 x.2.2.2.2.2.2.1
def flotsamref07_Free_l0 (x : Int × Int × (Bool × Unit) × Span × (Bool × Unit) × (List Int) × (List Span) × Unit) : Option (LRes (.cons (.cons .bool .nil) (.cons (.cons .bool .nil) (.cons (.sl (.int .u64)) (.cons (.sl cSpan) .nil)))) .nil) := iterL (h := (.cons cI (.cons cI (.cons (.cons .bool .nil) (.cons cSpan (.cons (.cons .bool .nil) (.cons (.sl (.int .u64)) (.cons (.sl cSpan) .nil)))))))) (o := (.cons (.cons .bool .nil) (.cons (.cons .bool .nil) (.cons (.sl (.int .u64)) (.cons (.sl cSpan) .nil))))) (r := .nil) flotsamref07_Free_s0 9223372036854775808 x
def flotsamref07_Free_r (a0 : Heap) (a1 : Int) : Option (Heap × Bool × Unit) :=
  (flotsamref07_Find (a0, a1, ())).bind fun y1 =>
  bif !y1.2.2.1 then
    some (a0, false, ())
  else
  bif decide (0 ≤ y1.1) then
    bif decide (y1.1 < (a0.2.1.length : Int)) then
      (flotsamref06_Give (a0.2.1.getD y1.1.toNat (0, 0, 0, ()), y1.2.1, ())).bind fun y2 =>
      bif !y2.2.1 then
        some (a0, false, ())
      else
      (flotsamref07_with (a0, y1.1, y2.1, ())).bind fun y3 =>
      (flotsamref07_Free_l0 (a1, 0, (false, ()), y2.1, y3.1.2.2, y3.1.1, y3.1.2.1, ())).bind fun s5 => match s5 with
      | .out s5 =>
        some ((s5.2.2.1, s5.2.2.2.1, s5.2.1), true, ())
      | .ret s5 =>
        none
    else none
  else none
def flotsamref07_Free (x : Heap × Int × Unit) : Option (Heap × Bool × Unit) := flotsamref07_Free_r x.1 x.2.1
noncomputable def flotsamref07_Free_sm : Sum := ⟨(.cons cHeap (.cons cI .nil)), (.cons (.d cHeap) (.cons (.d .bool) .nil)), flotsamref07_Free⟩
noncomputable def flotsamref07_Free_L0 : LoopSum := { hc := ⟨[], [1, 4, 9, 11, 12], [], [], [16, 400, 544], [528, 529], 592⟩, h := ⟨[(1, (.d cI)), (4, (.pvar 16 [])), (9, (.pvar 400 [])), (11, (.pvar 544 [])), (12, (.d cI))], [(16, (.cons .nilsl (.cons .nilsl (.d (.cons .bool .nil))))), (400, (.d cSpan)), (544, (.cons (.row 528) (.cons (.row 529) (.d (.cons .bool .nil)))))], [(528, (.int .u64), true), (529, cSpan, true)], 592⟩, xid := 0, oc := ⟨[], [4, 11], [], [], [16, 544], [528, 529], 592⟩, o := ⟨[(4, (.pvar 16 [])), (11, (.pvar 544 []))], [(16, (.cons .nilsl (.cons .nilsl (.d (.cons .bool .nil))))), (544, (.cons (.row 528) (.cons (.row 529) (.d (.cons .bool .nil)))))], [(528, (.int .u64), true), (529, cSpan, true)], 592⟩, rc := ⟨[], [], [], [], [], [], 592⟩, r := ⟨[], [], [], 592⟩, F := flotsamref07_Free_l0 }
noncomputable def flotsamref07_Free_S : List (Nat × Sum) := [(48, flotsamref07_Find_sm), (100, flotsamref04_Words_sm), (107, flotsamref07_with_sm), (113, flotsamref06_Give_sm)]
noncomputable def flotsamref07_Free_fl : List (Nat × Func) := []
noncomputable def flotsamref07_Free_es : List AE := [⟨8, 56, 0, 0, flotsamref07_Free_L0⟩]
theorem flotsamref07_Free_den0 : (fun x => denStep TEv (look1 flotsamref07_Free_S) (look1 flotsamref07_Free_fl) (annOf flotsamref07_Free_es) 8 56 Go.Proofs.Tryd.f56.ntmps 0 (cat (bodyOf Go.Proofs.Tryd.f56) [true, true, true, true, true, true, false, true, false, false]) flotsamref07_Free_L0 x) = flotsamref07_Free_s0 := by kernel_rfl
theorem flotsamref07_Free_den : (fun x => denFun TEv (look1 flotsamref07_Free_S) (look1 flotsamref07_Free_fl) (annOf flotsamref07_Free_es) 8 56 Go.Proofs.Tryd.f56 flotsamref07_Free_sm.a flotsamref07_Free_sm.r x) = flotsamref07_Free_sm.F := by kernel_rfl
theorem flotsamref07_Free_ok0 : AEok Go.Proofs.Tryd.prog TEv (look1 flotsamref07_Free_S) (look1 flotsamref07_Free_fl) (annOf flotsamref07_Free_es) ⟨8, 56, 0, 0, flotsamref07_Free_L0⟩ := aeok_of 9223372036854775808 Go.Proofs.Tryd.func56 (by kernel_rfl) flotsamref07_Free_den0 (by kernel_rfl)
theorem flotsamref07_Free_sem : SemOf Go.Proofs.Tryd.prog 56 flotsamref07_Free_sm :=
  semMk teOk (sl := flotsamref07_Free_S) (all_cons flotsamref07_Find_sem (all_cons flotsamref04_Words_sem (all_cons flotsamref07_with_sem (all_cons flotsamref06_Give_sem all_nil)))) (fl := flotsamref07_Free_fl) (all_nil) (es := flotsamref07_Free_es) Go.Proofs.Tryd.func56 (by kernel_rfl) rfl (all_cons flotsamref07_Free_ok0 (all_nil)) rfl flotsamref07_Free_den

/-! ### flotsam/flotsamref03.Without -/
def flotsamref03_Without_r (a0 : Int) (a1 : Int) : Option (Int × Unit) :=
  (flotsamref03_turned (a0, a1, false, ())).bind fun y1 =>
  some (y1.1, ())
def flotsamref03_Without (x : Int × Int × Unit) : Option (Int × Unit) := flotsamref03_Without_r x.1 x.2.1
noncomputable def flotsamref03_Without_sm : Sum := ⟨(.cons (.int .u32) (.cons cI .nil)), (.cons (.d (.int .u32)) .nil), flotsamref03_Without⟩
noncomputable def flotsamref03_Without_S : List (Nat × Sum) := [(171, flotsamref03_turned_sm)]
noncomputable def flotsamref03_Without_fl : List (Nat × Func) := []
noncomputable def flotsamref03_Without_es : List AE := []
theorem flotsamref03_Without_den : (fun x => denFun TEv (look1 flotsamref03_Without_S) (look1 flotsamref03_Without_fl) (annOf flotsamref03_Without_es) 8 160 Go.Proofs.Tryd.f160 flotsamref03_Without_sm.a flotsamref03_Without_sm.r x) = flotsamref03_Without_sm.F := by kernel_rfl
theorem flotsamref03_Without_sem : SemOf Go.Proofs.Tryd.prog 160 flotsamref03_Without_sm :=
  semMk teOk (sl := flotsamref03_Without_S) (all_cons flotsamref03_turned_sem all_nil) (fl := flotsamref03_Without_fl) (all_nil) (es := flotsamref03_Without_es) Go.Proofs.Tryd.func160 (by kernel_rfl) rfl (all_nil) rfl flotsamref03_Without_den

/-! ### flotsam/flotsamref06.Take -/
def flotsamref06_Take_s0r (v5 : Int) (c0 : Span) (c16 : Span) : Option (SRes (.cons cI (.cons cSpan (.cons cSpan .nil))) (.cons cSpan (.cons cSpan .nil)) (.cons cI (.cons .bool (.cons cSpan .nil)))) :=
  bif decide (v5 < 16) then
    bif c0.1 == 1 then
      (flotsamref03_Has (c0.2.2.1, v5, ())).bind fun y1 =>
      bif y1.1 then
        (flotsamref03_Without (c0.2.2.1, v5, ())).bind fun y2 =>
        some (.fin (.ret (v5, true, (c0.1, c0.2.1, y2.1, c0.2.2.2), ())))
      else
      some (.next (wi64 (v5 + 1), c0, c16, ()))
    else
    some (.fin (.out (c0, c16, ())))
  else
  some (.fin (.out (c0, c16, ())))
def flotsamref06_Take_s0 (x : Int × Span × Span × Unit) : Option (SRes (.cons cI (.cons cSpan (.cons cSpan .nil))) (.cons cSpan (.cons cSpan .nil)) (.cons cI (.cons .bool (.cons cSpan .nil)))) := flotsamref06_Take_s0r x.1 x.2.1 x.2.2.1
def flotsamref06_Take_l0 (x : Int × Span × Span × Unit) : Option (LRes (.cons cSpan (.cons cSpan .nil)) (.cons cI (.cons .bool (.cons cSpan .nil)))) := iterL (h := (.cons cI (.cons cSpan (.cons cSpan .nil)))) (o := (.cons cSpan (.cons cSpan .nil))) (r := (.cons cI (.cons .bool (.cons cSpan .nil)))) flotsamref06_Take_s0 9223372036854775808 x
def flotsamref06_Take_r (a0 : Span) : Option (Span × Int × Bool × Unit) :=
  (flotsamref06_Take_l0 (0, a0, (0, 0, 0, ()), ())).bind fun s3 => match s3 with
  | .out s3 =>
    some (s3.1, 0, false, ())
  | .ret s3 =>
    some (s3.2.2.1, s3.1, s3.2.1, ())
def flotsamref06_Take (x : Span × Unit) : Option (Span × Int × Bool × Unit) := flotsamref06_Take_r x.1
noncomputable def flotsamref06_Take_sm : Sum := ⟨(.cons cSpan .nil), (.cons (.d cSpan) (.cons (.d cI) (.cons (.d .bool) .nil))), flotsamref06_Take⟩
noncomputable def flotsamref06_Take_L0 : LoopSum := { hc := ⟨[], [1, 2, 5], [], [], [0, 16], [], 80⟩, h := ⟨[(1, (.pvar 0 [])), (2, (.pvar 16 [])), (5, (.d cI))], [(0, (.d cSpan)), (16, (.d cSpan))], [], 80⟩, xid := 0, oc := ⟨[], [1, 2], [], [], [0, 16], [], 80⟩, o := ⟨[(1, (.pvar 0 [])), (2, (.pvar 16 []))], [(0, (.d cSpan)), (16, (.d cSpan))], [], 80⟩, rc := ⟨[], [2, 3, 4], [], [], [16], [], 80⟩, r := ⟨[(2, (.pvar 16 [])), (3, (.d cI)), (4, (.d .bool))], [(16, (.d cSpan))], [], 80⟩, F := flotsamref06_Take_l0 }
noncomputable def flotsamref06_Take_S : List (Nat × Sum) := [(137, flotsamref03_Has_sm), (160, flotsamref03_Without_sm)]
noncomputable def flotsamref06_Take_fl : List (Nat × Func) := []
noncomputable def flotsamref06_Take_es : List AE := [⟨8, 118, 0, 0, flotsamref06_Take_L0⟩]
theorem flotsamref06_Take_den0 : (fun x => denStep TEv (look1 flotsamref06_Take_S) (look1 flotsamref06_Take_fl) (annOf flotsamref06_Take_es) 8 118 Go.Proofs.Tryd.f118.ntmps 0 (cat (bodyOf Go.Proofs.Tryd.f118) [true, false, true, false, false]) flotsamref06_Take_L0 x) = flotsamref06_Take_s0 := by kernel_rfl
theorem flotsamref06_Take_den : (fun x => denFun TEv (look1 flotsamref06_Take_S) (look1 flotsamref06_Take_fl) (annOf flotsamref06_Take_es) 8 118 Go.Proofs.Tryd.f118 flotsamref06_Take_sm.a flotsamref06_Take_sm.r x) = flotsamref06_Take_sm.F := by kernel_rfl
theorem flotsamref06_Take_ok0 : AEok Go.Proofs.Tryd.prog TEv (look1 flotsamref06_Take_S) (look1 flotsamref06_Take_fl) (annOf flotsamref06_Take_es) ⟨8, 118, 0, 0, flotsamref06_Take_L0⟩ := aeok_of 9223372036854775808 Go.Proofs.Tryd.func118 (by kernel_rfl) flotsamref06_Take_den0 (by kernel_rfl)
theorem flotsamref06_Take_sem : SemOf Go.Proofs.Tryd.prog 118 flotsamref06_Take_sm :=
  semMk teOk (sl := flotsamref06_Take_S) (all_cons flotsamref03_Has_sem (all_cons flotsamref03_Without_sem all_nil)) (fl := flotsamref06_Take_fl) (all_nil) (es := flotsamref06_Take_es) Go.Proofs.Tryd.func118 (by kernel_rfl) rfl (all_cons flotsamref06_Take_ok0 (all_nil)) rfl flotsamref06_Take_den

/-! ### flotsam/flotsamref05.Address -/
def flotsamref05_Address_r (a0 : Int) (a1 : Int) (a2 : Int) : Option (Int × Bool × Unit) :=
  bif decide (a0 < 0) then
    some (0, false, ())
  else
  bif decide (a0 > 15) then
    some (0, false, ())
  else
  bif decide (a2 < 0) then
    some (0, false, ())
  else
  (flotsamref04_Blocks (a1, ())).bind fun y1 =>
  bif decide (a2 ≥ y1.1) then
    some (0, false, ())
  else
  (flotsamref04_Words (a1, ())).bind fun y2 =>
  some (wi64 ((wi64 (32 * a0)) + (wi64 (a2 * y2.1))), true, ())
def flotsamref05_Address (x : Int × Val) : Option (Int × Bool × Unit) := flotsamref05_Address_r x.1 x.2.1 x.2.2.1
noncomputable def flotsamref05_Address_sm : Sum := ⟨(.cons cI cVal), (.cons (.d cI) (.cons (.d .bool) .nil)), flotsamref05_Address⟩
noncomputable def flotsamref05_Address_S : List (Nat × Sum) := [(99, flotsamref04_Blocks_sm), (100, flotsamref04_Words_sm)]
noncomputable def flotsamref05_Address_fl : List (Nat × Func) := []
noncomputable def flotsamref05_Address_es : List AE := []
theorem flotsamref05_Address_den : (fun x => denFun TEv (look1 flotsamref05_Address_S) (look1 flotsamref05_Address_fl) (annOf flotsamref05_Address_es) 8 119 Go.Proofs.Tryd.f119 flotsamref05_Address_sm.a flotsamref05_Address_sm.r x) = flotsamref05_Address_sm.F := by kernel_rfl
theorem flotsamref05_Address_sem : SemOf Go.Proofs.Tryd.prog 119 flotsamref05_Address_sm :=
  semMk teOk (sl := flotsamref05_Address_S) (all_cons flotsamref04_Blocks_sem (all_cons flotsamref04_Words_sem all_nil)) (fl := flotsamref05_Address_fl) (all_nil) (es := flotsamref05_Address_es) Go.Proofs.Tryd.func119 (by kernel_rfl) rfl (all_nil) rfl flotsamref05_Address_den

/-! ### flotsam/flotsamref07.Lay -/
def flotsamref07_Lay_s0r (v2 : Int) (v13 : Int) (v15 : Int) (c0 : Heap) (c16 : Bool × Unit) (c608 : Span) (c768 : Bool × Unit) (r752 : List Int) (r753 : List Span) : Option (SRes (.cons cI (.cons cI (.cons cI (.cons cHeap (.cons (.cons .bool .nil) (.cons cSpan (.cons (.cons .bool .nil) (.cons (.sl (.int .u64)) (.cons (.sl cSpan) .nil))))))))) (.cons cI (.cons cI (.cons cHeap (.cons (.cons .bool .nil) (.cons cSpan (.cons (.cons .bool .nil) (.cons (.sl (.int .u64)) (.cons (.sl cSpan) .nil)))))))) .nil) :=
  (flotsamref04_Words (c608.2.1, ())).bind fun y5 =>
  bif decide (v15 < y5.1) then
    bif decide (0 ≤ (wi64 (v13 + v15))) then
      bif decide ((wi64 (v13 + v15)) < (r752.length : Int)) then
        some (.next (v2, v13, wi64 (v15 + 1), c0, c16, c608, c768, r752.set (wi64 (v13 + v15)).toNat 0, r753, ()))
      else none
    else none
  else
  some (.fin (.out (v2, v13, c0, c16, c608, c768, r752, r753, ())))
def flotsamref07_Lay_s0 (x : Int × Int × Int × Heap × (Bool × Unit) × Span × (Bool × Unit) × (List Int) × (List Span) × Unit) : Option (SRes (.cons cI (.cons cI (.cons cI (.cons cHeap (.cons (.cons .bool .nil) (.cons cSpan (.cons (.cons .bool .nil) (.cons (.sl (.int .u64)) (.cons (.sl cSpan) .nil))))))))) (.cons cI (.cons cI (.cons cHeap (.cons (.cons .bool .nil) (.cons cSpan (.cons (.cons .bool .nil) (.cons (.sl (.int .u64)) (.cons (.sl cSpan) .nil)))))))) .nil) := flotsamref07_Lay_s0r x.1 x.2.1 x.2.2.1 x.2.2.2.1 x.2.2.2.2.1 x.2.2.2.2.2.1 x.2.2.2.2.2.2.1 x.2.2.2.2.2.2.2.1 x.2.2.2.2.2.2.2.2.1
def flotsamref07_Lay_l0 (x : Int × Int × Int × Heap × (Bool × Unit) × Span × (Bool × Unit) × (List Int) × (List Span) × Unit) : Option (LRes (.cons cI (.cons cI (.cons cHeap (.cons (.cons .bool .nil) (.cons cSpan (.cons (.cons .bool .nil) (.cons (.sl (.int .u64)) (.cons (.sl cSpan) .nil)))))))) .nil) := iterL (h := (.cons cI (.cons cI (.cons cI (.cons cHeap (.cons (.cons .bool .nil) (.cons cSpan (.cons (.cons .bool .nil) (.cons (.sl (.int .u64)) (.cons (.sl cSpan) .nil)))))))))) (o := (.cons cI (.cons cI (.cons cHeap (.cons (.cons .bool .nil) (.cons cSpan (.cons (.cons .bool .nil) (.cons (.sl (.int .u64)) (.cons (.sl cSpan) .nil))))))))) (r := .nil) flotsamref07_Lay_s0 9223372036854775808 x
def flotsamref07_Lay_r (a0 : Heap) (a1 : Int) (a2 : Int) : Option (Heap × Int × Bool × Unit) :=
  bif decide (a1 < 0) then
    some (a0, 0, false, ())
  else
  bif decide (a1 ≥ (a0.2.1.length : Int)) then
    some (a0, 0, false, ())
  else
  bif decide (a2 < 0) then
    some (a0, 0, false, ())
  else
  bif decide (0 ≤ a1) then
    bif decide (a1 < (a0.2.1.length : Int)) then
      (flotsamref04_Words ((a0.2.1.getD a1.toNat (0, 0, 0, ())).2.1, ())).bind fun y1 =>
      bif decide (a2 ≥ y1.1) then
        some (a0, 0, false, ())
      else
      bif decide (0 ≤ a1) then
        bif decide (a1 < (a0.2.1.length : Int)) then
          (flotsamref06_Take (a0.2.1.getD a1.toNat (0, 0, 0, ()), ())).bind fun y2 =>
          bif !y2.2.2.1 then
            some (a0, 0, false, ())
          else
          (flotsamref07_with (a0, a1, y2.1, ())).bind fun y3 =>
          (flotsamref05_Address (a1, y2.1.2.1, y2.2.1, ())).bind fun y4 =>
          (flotsamref07_Lay_l0 (a2, y4.1, 0, a0, (false, ()), y2.1, y3.1.2.2, y3.1.1, y3.1.2.1, ())).bind fun s6 => match s6 with
          | .out s6 =>
            (flotsamref02_Put ((true, s6.2.2.1.2.2.1, s6.2.2.2.2.1.2.1, s6.1, ()), ())).bind fun y7 =>
            bif decide (0 ≤ s6.2.1) then
              bif decide (s6.2.1 < (s6.2.2.2.2.2.2.1.length : Int)) then
                some ((s6.2.2.2.2.2.2.1.set s6.2.1.toNat y7.1, s6.2.2.2.2.2.2.2.1, s6.2.2.2.2.2.1), s6.2.1, true, ())
              else none
            else none
          | .ret s6 =>
            none
        else none
      else none
    else none
  else none
def flotsamref07_Lay (x : Heap × Val) : Option (Heap × Int × Bool × Unit) := flotsamref07_Lay_r x.1 x.2.1 x.2.2.1
noncomputable def flotsamref07_Lay_sm : Sum := ⟨(.cons cHeap cVal), (.cons (.d cHeap) (.cons (.d cI) (.cons (.d .bool) .nil))), flotsamref07_Lay⟩
noncomputable def flotsamref07_Lay_L0 : LoopSum := { hc := ⟨[], [2, 3, 6, 9, 12, 13, 15], [], [], [0, 16, 608, 768], [752, 753], 976⟩, h := ⟨[(2, (.d cI)), (3, (.pvar 0 [])), (6, (.pvar 16 [])), (9, (.pvar 608 [])), (12, (.pvar 768 [])), (13, (.d cI)), (15, (.d cI))], [(0, (.d cHeap)), (16, (.cons .nilsl (.cons .nilsl (.d (.cons .bool .nil))))), (608, (.d cSpan)), (768, (.cons (.row 752) (.cons (.row 753) (.d (.cons .bool .nil)))))], [(752, (.int .u64), true), (753, cSpan, true)], 976⟩, xid := 0, oc := ⟨[], [2, 3, 6, 9, 12, 13], [], [], [0, 16, 608, 768], [752, 753], 976⟩, o := ⟨[(2, (.d cI)), (3, (.pvar 0 [])), (6, (.pvar 16 [])), (9, (.pvar 608 [])), (12, (.pvar 768 [])), (13, (.d cI))], [(0, (.d cHeap)), (16, (.cons .nilsl (.cons .nilsl (.d (.cons .bool .nil))))), (608, (.d cSpan)), (768, (.cons (.row 752) (.cons (.row 753) (.d (.cons .bool .nil)))))], [(752, (.int .u64), true), (753, cSpan, true)], 976⟩, rc := ⟨[], [], [], [], [], [], 976⟩, r := ⟨[], [], [], 976⟩, F := flotsamref07_Lay_l0 }
noncomputable def flotsamref07_Lay_S : List (Nat × Sum) := [(89, flotsamref02_Put_sm), (100, flotsamref04_Words_sm), (107, flotsamref07_with_sm), (118, flotsamref06_Take_sm), (119, flotsamref05_Address_sm)]
noncomputable def flotsamref07_Lay_fl : List (Nat × Func) := []
noncomputable def flotsamref07_Lay_es : List AE := [⟨8, 58, 0, 0, flotsamref07_Lay_L0⟩]
theorem flotsamref07_Lay_den0 : (fun x => denStep TEv (look1 flotsamref07_Lay_S) (look1 flotsamref07_Lay_fl) (annOf flotsamref07_Lay_es) 8 58 Go.Proofs.Tryd.f58.ntmps 0 (cat (bodyOf Go.Proofs.Tryd.f58) [true, true, true, true, true, true, false, true, false, false]) flotsamref07_Lay_L0 x) = flotsamref07_Lay_s0 := by kernel_rfl
theorem flotsamref07_Lay_den : (fun x => denFun TEv (look1 flotsamref07_Lay_S) (look1 flotsamref07_Lay_fl) (annOf flotsamref07_Lay_es) 8 58 Go.Proofs.Tryd.f58 flotsamref07_Lay_sm.a flotsamref07_Lay_sm.r x) = flotsamref07_Lay_sm.F := by kernel_rfl
theorem flotsamref07_Lay_ok0 : AEok Go.Proofs.Tryd.prog TEv (look1 flotsamref07_Lay_S) (look1 flotsamref07_Lay_fl) (annOf flotsamref07_Lay_es) ⟨8, 58, 0, 0, flotsamref07_Lay_L0⟩ := aeok_of 9223372036854775808 Go.Proofs.Tryd.func58 (by kernel_rfl) flotsamref07_Lay_den0 (by kernel_rfl)
theorem flotsamref07_Lay_sem : SemOf Go.Proofs.Tryd.prog 58 flotsamref07_Lay_sm :=
  semMk teOk (sl := flotsamref07_Lay_S) (all_cons flotsamref02_Put_sem (all_cons flotsamref04_Words_sem (all_cons flotsamref07_with_sem (all_cons flotsamref06_Take_sem (all_cons flotsamref05_Address_sem all_nil))))) (fl := flotsamref07_Lay_fl) (all_nil) (es := flotsamref07_Lay_es) Go.Proofs.Tryd.func58 (by kernel_rfl) rfl (all_cons flotsamref07_Lay_ok0 (all_nil)) rfl flotsamref07_Lay_den

/-! ### flotsam/flotsamref07.Made -/
def flotsamref07_Made_s0r (v1 : List (Int × Val)) (v6 : Int) (c0 : Bool × Unit) (c112 : Heap) : Option (SRes (.cons (.sl (.cons cI cVal)) (.cons cI (.cons (.cons .bool .nil) (.cons cHeap .nil)))) (.cons (.cons .bool .nil) (.cons cHeap .nil)) .nil) :=
  bif decide (v6 < (v1.length : Int)) then
    bif decide (0 ≤ v6) then
      bif decide (v6 < (v1.length : Int)) then
        bif (v1.getD v6.toNat (0, 0, 0, ())).1 == 0 then
          (flotsamref07_Open (c112, (v1.getD v6.toNat (0, 0, 0, ())).2.1, (v1.getD v6.toNat (0, 0, 0, ())).2.2.1, ())).bind fun y1 =>
          some (.next (v1, wi64 (v6 + 1), c0, y1.1, ()))
        else
        bif (v1.getD v6.toNat (0, 0, 0, ())).1 == 1 then
          (flotsamref07_Lay (c112, (v1.getD v6.toNat (0, 0, 0, ())).2.1, (v1.getD v6.toNat (0, 0, 0, ())).2.2.1, ())).bind fun y2 =>
          some (.next (v1, wi64 (v6 + 1), c0, y2.1, ()))
        else
        bif (v1.getD v6.toNat (0, 0, 0, ())).1 == 2 then
          (flotsamref07_Lay (c112, (v1.getD v6.toNat (0, 0, 0, ())).2.1, (v1.getD v6.toNat (0, 0, 0, ())).2.2.1, ())).bind fun y3 =>
          some (.next (v1, wi64 (v6 + 1), c0, y3.1, ()))
        else
        bif (v1.getD v6.toNat (0, 0, 0, ())).1 == 3 then
          (flotsamref07_Free (c112, (v1.getD v6.toNat (0, 0, 0, ())).2.1, ())).bind fun y4 =>
          some (.next (v1, wi64 (v6 + 1), c0, y4.1, ()))
        else
        bif (v1.getD v6.toNat (0, 0, 0, ())).1 == 4 then
          (flotsamref07_Close (c112, (v1.getD v6.toNat (0, 0, 0, ())).2.1, ())).bind fun y5 =>
          some (.next (v1, wi64 (v6 + 1), c0, y5.1, ()))
        else
        some (.next (v1, wi64 (v6 + 1), c0, (c112.1, c112.2.1, !c112.2.2.1, c112.2.2.2), ()))
      else none
    else none
  else
  some (.fin (.out (c0, c112, ())))
def flotsamref07_Made_s0 (x : (List (Int × Val)) × Int × (Bool × Unit) × Heap × Unit) : Option (SRes (.cons (.sl (.cons cI cVal)) (.cons cI (.cons (.cons .bool .nil) (.cons cHeap .nil)))) (.cons (.cons .bool .nil) (.cons cHeap .nil)) .nil) := flotsamref07_Made_s0r x.1 x.2.1 x.2.2.1 x.2.2.2.1
def flotsamref07_Made_l0 (x : (List (Int × Val)) × Int × (Bool × Unit) × Heap × Unit) : Option (LRes (.cons (.cons .bool .nil) (.cons cHeap .nil)) .nil) := iterL (h := (.cons (.sl (.cons cI cVal)) (.cons cI (.cons (.cons .bool .nil) (.cons cHeap .nil))))) (o := (.cons (.cons .bool .nil) (.cons cHeap .nil))) (r := .nil) flotsamref07_Made_s0 9223372036854775808 x
def flotsamref07_Made_r (a0 : Int) (a1 : List (Int × Val)) : Option (Heap × Unit) :=
  bif (wi64 (32 * a0)) == (wi64 (32 * a0)) then
    bif decide (0 ≤ (wi64 (32 * a0))) then
      bif decide ((wi64 (32 * a0)).toNat * 8 ≤ 140737488355328) then
        bif a0 == a0 then
          bif decide (0 ≤ a0) then
            bif decide (a0.toNat * 24 ≤ 140737488355328) then
              (flotsamref07_Made_l0 (a1, 0, (false, ()), (List.replicate (wi64 (32 * a0)).toNat 0, List.replicate a0.toNat (0, 0, 0, ()), false, ()), ())).bind fun s6 => match s6 with
              | .out s6 =>
                some (s6.2.1, ())
              | .ret s6 =>
                none
            else none
          else none
        else none
      else none
    else none
  else none
def flotsamref07_Made (x : Int × (List (Int × Val)) × Unit) : Option (Heap × Unit) := flotsamref07_Made_r x.1 x.2.1
noncomputable def flotsamref07_Made_sm : Sum := ⟨(.cons cI (.cons (.sl (.cons cI cVal)) .nil)), (.cons (.d cHeap) .nil), flotsamref07_Made⟩
noncomputable def flotsamref07_Made_L0 : LoopSum := { hc := ⟨[(.key 112 [], cHeap)], [1, 4, 5, 6], [], [], [0, 112], [], 160⟩, h := ⟨[(1, (.d (.sl (.cons cI cVal)))), (4, (.pvar 0 [])), (5, (.pvar 112 [])), (6, (.d cI))], [(0, (.cons .nilsl (.cons .nilsl (.d (.cons .bool .nil))))), (112, (.d cHeap))], [], 160⟩, xid := 0, oc := ⟨[], [4, 5], [], [], [0, 112], [], 160⟩, o := ⟨[(4, (.pvar 0 [])), (5, (.pvar 112 []))], [(0, (.cons .nilsl (.cons .nilsl (.d (.cons .bool .nil))))), (112, (.d cHeap))], [], 160⟩, rc := ⟨[], [], [], [], [], [], 160⟩, r := ⟨[], [], [], 160⟩, F := flotsamref07_Made_l0 }
noncomputable def flotsamref07_Made_S : List (Nat × Sum) := [(52, flotsamref07_Open_sm), (54, flotsamref07_Close_sm), (56, flotsamref07_Free_sm), (58, flotsamref07_Lay_sm)]
noncomputable def flotsamref07_Made_fl : List (Nat × Func) := []
noncomputable def flotsamref07_Made_es : List AE := [⟨8, 45, 0, 0, flotsamref07_Made_L0⟩]
theorem flotsamref07_Made_den0 : (fun x => denStep TEv (look1 flotsamref07_Made_S) (look1 flotsamref07_Made_fl) (annOf flotsamref07_Made_es) 8 45 Go.Proofs.Tryd.f45.ntmps 0 (cat (bodyOf Go.Proofs.Tryd.f45) [true, true, false, true, false, false]) flotsamref07_Made_L0 x) = flotsamref07_Made_s0 := by kernel_rfl
theorem flotsamref07_Made_den : (fun x => denFun TEv (look1 flotsamref07_Made_S) (look1 flotsamref07_Made_fl) (annOf flotsamref07_Made_es) 8 45 Go.Proofs.Tryd.f45 flotsamref07_Made_sm.a flotsamref07_Made_sm.r x) = flotsamref07_Made_sm.F := by kernel_rfl
theorem flotsamref07_Made_ok0 : AEok Go.Proofs.Tryd.prog TEv (look1 flotsamref07_Made_S) (look1 flotsamref07_Made_fl) (annOf flotsamref07_Made_es) ⟨8, 45, 0, 0, flotsamref07_Made_L0⟩ := aeok_of 9223372036854775808 Go.Proofs.Tryd.func45 (by kernel_rfl) flotsamref07_Made_den0 (by kernel_rfl)
theorem flotsamref07_Made_sem : SemOf Go.Proofs.Tryd.prog 45 flotsamref07_Made_sm :=
  semMk teOk (sl := flotsamref07_Made_S) (all_cons flotsamref07_Open_sem (all_cons flotsamref07_Close_sem (all_cons flotsamref07_Free_sem (all_cons flotsamref07_Lay_sem all_nil)))) (fl := flotsamref07_Made_fl) (all_nil) (es := flotsamref07_Made_es) Go.Proofs.Tryd.func45 (by kernel_rfl) rfl (all_cons flotsamref07_Made_ok0 (all_nil)) rfl flotsamref07_Made_den

/-! ### flotsam/flotsamref07.Used -/
def flotsamref07_Used_s0r (v3 : Int) (v4 : Int) (c0 : Heap) : Option (SRes (.cons cI (.cons cI (.cons cHeap .nil))) (.cons cI .nil) .nil) :=
  bif decide (v4 < (c0.2.1.length : Int)) then
    bif decide (0 ≤ v4) then
      bif decide (v4 < (c0.2.1.length : Int)) then
        bif (c0.2.1.getD v4.toNat (0, 0, 0, ())).1 != 0 then
          (flotsamref04_Blocks ((c0.2.1.getD v4.toNat (0, 0, 0, ())).2.1, ())).bind fun y1 =>
          (flotsamref06_Free (c0.2.1.getD v4.toNat (0, 0, 0, ()), ())).bind fun y2 =>
          (flotsamref04_Words ((c0.2.1.getD v4.toNat (0, 0, 0, ())).2.1, ())).bind fun y3 =>
          some (.next (wi64 (v3 + (wi64 ((wi64 (y1.1 - y2.1)) * y3.1))), wi64 (v4 + 1), c0, ()))
        else
        some (.next (v3, wi64 (v4 + 1), c0, ()))
      else none
    else none
  else
  some (.fin (.out (v3, ())))
def flotsamref07_Used_s0 (x : Int × Int × Heap × Unit) : Option (SRes (.cons cI (.cons cI (.cons cHeap .nil))) (.cons cI .nil) .nil) := flotsamref07_Used_s0r x.1 x.2.1 x.2.2.1
def flotsamref07_Used_l0 (x : Int × Int × Heap × Unit) : Option (LRes (.cons cI .nil) .nil) := iterL (h := (.cons cI (.cons cI (.cons cHeap .nil)))) (o := (.cons cI .nil)) (r := .nil) flotsamref07_Used_s0 9223372036854775808 x
def flotsamref07_Used_r (a0 : Heap) : Option (Int × Unit) :=
  (flotsamref07_Used_l0 (0, 0, a0, ())).bind fun s4 => match s4 with
  | .out s4 =>
    some (s4.1, ())
  | .ret s4 =>
    none
def flotsamref07_Used (x : Heap × Unit) : Option (Int × Unit) := flotsamref07_Used_r x.1
noncomputable def flotsamref07_Used_sm : Sum := ⟨(.cons cHeap .nil), (.cons (.d cI) .nil), flotsamref07_Used⟩
noncomputable def flotsamref07_Used_L0 : LoopSum := { hc := ⟨[], [1, 3, 4], [], [], [0], [], 64⟩, h := ⟨[(1, (.pvar 0 [])), (3, (.d cI)), (4, (.d cI))], [(0, (.d cHeap))], [], 64⟩, xid := 0, oc := ⟨[], [3], [], [], [], [], 64⟩, o := ⟨[(3, (.d cI))], [], [], 64⟩, rc := ⟨[], [], [], [], [], [], 64⟩, r := ⟨[], [], [], 64⟩, F := flotsamref07_Used_l0 }
noncomputable def flotsamref07_Used_S : List (Nat × Sum) := [(99, flotsamref04_Blocks_sm), (100, flotsamref04_Words_sm), (103, flotsamref06_Free_sm)]
noncomputable def flotsamref07_Used_fl : List (Nat × Func) := []
noncomputable def flotsamref07_Used_es : List AE := [⟨8, 50, 0, 0, flotsamref07_Used_L0⟩]
theorem flotsamref07_Used_den0 : (fun x => denStep TEv (look1 flotsamref07_Used_S) (look1 flotsamref07_Used_fl) (annOf flotsamref07_Used_es) 8 50 Go.Proofs.Tryd.f50.ntmps 0 (cat (bodyOf Go.Proofs.Tryd.f50) [true, true, false, true, false, false]) flotsamref07_Used_L0 x) = flotsamref07_Used_s0 := by kernel_rfl
theorem flotsamref07_Used_den : (fun x => denFun TEv (look1 flotsamref07_Used_S) (look1 flotsamref07_Used_fl) (annOf flotsamref07_Used_es) 8 50 Go.Proofs.Tryd.f50 flotsamref07_Used_sm.a flotsamref07_Used_sm.r x) = flotsamref07_Used_sm.F := by kernel_rfl
theorem flotsamref07_Used_ok0 : AEok Go.Proofs.Tryd.prog TEv (look1 flotsamref07_Used_S) (look1 flotsamref07_Used_fl) (annOf flotsamref07_Used_es) ⟨8, 50, 0, 0, flotsamref07_Used_L0⟩ := aeok_of 9223372036854775808 Go.Proofs.Tryd.func50 (by kernel_rfl) flotsamref07_Used_den0 (by kernel_rfl)
theorem flotsamref07_Used_sem : SemOf Go.Proofs.Tryd.prog 50 flotsamref07_Used_sm :=
  semMk teOk (sl := flotsamref07_Used_S) (all_cons flotsamref04_Blocks_sem (all_cons flotsamref04_Words_sem (all_cons flotsamref06_Free_sem all_nil))) (fl := flotsamref07_Used_fl) (all_nil) (es := flotsamref07_Used_es) Go.Proofs.Tryd.func50 (by kernel_rfl) rfl (all_cons flotsamref07_Used_ok0 (all_nil)) rfl flotsamref07_Used_den

/-! ### flotsam/flotsamlaw07.HeapForms -/
def flotsamlaw07_HeapForms_r (a0 : Heap) (a1 : Int) (a2 : Int) : Option (Bool × Unit) :=
  (flotsamlaw07_awake ()).bind fun y1 =>
  bif !y1.1 then
    (flotsamlaw07_awake ()).bind fun y2 =>
    some (y2.1, ())
  else
  bif decide ((a0.1.length : Int) > 600) then
    (flotsamlaw07_awake ()).bind fun y3 =>
    some (y3.1, ())
  else
  bif decide ((a0.2.1.length : Int) > 20) then
    (flotsamlaw07_awake ()).bind fun y4 =>
    some (y4.1, ())
  else
  (heap_New (a2, ())).bind fun y5 =>
  bif decide (a2 < 1) then
    bif y5.2.1 != 1 then
      some (false, ())
    else
    (flotsamref07_Same ((y5.1.1, y5.1.2.1, y5.1.2.2.1, ()), ([], [], false, ()), ())).bind fun y6 =>
    bif !y6.1 then
      some (false, ())
    else
    (heap_Form (a0, ())).bind fun y7 =>
    (flotsamref07_Form (a0, ())).bind fun y8 =>
    bif !(y7.1 == y8.1) then
      (heap_Form (a0, ())).bind fun y9 =>
      (flotsamref07_Form (a0, ())).bind fun y10 =>
      some (y9.1 == y10.1, ())
    else
    (flotsamref07_Form (a0, ())).bind fun y11 =>
    bif !y11.1 then
      (heap_Form (a0, ())).bind fun y12 =>
      (flotsamref07_Form (a0, ())).bind fun y13 =>
      some (y12.1 == y13.1, ())
    else
    (heap_Find (a0, a1, ())).bind fun y14 =>
    (flotsamref07_Find (a0, a1, ())).bind fun y15 =>
    bif y14.1 == y15.1 then
      bif y14.2.1 == y15.2.1 then
        bif y14.2.2.1 == y15.2.2.1 then
          (heap_Used (a0, ())).bind fun y16 =>
          (flotsamref07_Used (a0, ())).bind fun y17 =>
          some (y16.1 == y17.1, ())
        else
        some (false, ())
      else
      some (false, ())
    else
    some (false, ())
  else
  bif decide (a2 > 16) then
    bif y5.2.1 != 1 then
      some (false, ())
    else
    (flotsamref07_Same ((y5.1.1, y5.1.2.1, y5.1.2.2.1, ()), ([], [], false, ()), ())).bind fun y18 =>
    bif !y18.1 then
      some (false, ())
    else
    (heap_Form (a0, ())).bind fun y19 =>
    (flotsamref07_Form (a0, ())).bind fun y20 =>
    bif !(y19.1 == y20.1) then
      (heap_Form (a0, ())).bind fun y21 =>
      (flotsamref07_Form (a0, ())).bind fun y22 =>
      some (y21.1 == y22.1, ())
    else
    (flotsamref07_Form (a0, ())).bind fun y23 =>
    bif !y23.1 then
      (heap_Form (a0, ())).bind fun y24 =>
      (flotsamref07_Form (a0, ())).bind fun y25 =>
      some (y24.1 == y25.1, ())
    else
    (heap_Find (a0, a1, ())).bind fun y26 =>
    (flotsamref07_Find (a0, a1, ())).bind fun y27 =>
    bif y26.1 == y27.1 then
      bif y26.2.1 == y27.2.1 then
        bif y26.2.2.1 == y27.2.2.1 then
          (heap_Used (a0, ())).bind fun y28 =>
          (flotsamref07_Used (a0, ())).bind fun y29 =>
          some (y28.1 == y29.1, ())
        else
        some (false, ())
      else
      some (false, ())
    else
    some (false, ())
  else
  bif y5.2.1 != 0 then
    some (false, ())
  else
  (flotsamref07_Made (a2, [], ())).bind fun y30 =>
  (flotsamref07_Same ((y5.1.1, y5.1.2.1, y5.1.2.2.1, ()), y30.1, ())).bind fun y31 =>
  bif !y31.1 then
    some (false, ())
  else
  (heap_Form (a0, ())).bind fun y32 =>
  (flotsamref07_Form (a0, ())).bind fun y33 =>
  bif !(y32.1 == y33.1) then
    (heap_Form (a0, ())).bind fun y34 =>
    (flotsamref07_Form (a0, ())).bind fun y35 =>
    some (y34.1 == y35.1, ())
  else
  (flotsamref07_Form (a0, ())).bind fun y36 =>
  bif !y36.1 then
    (heap_Form (a0, ())).bind fun y37 =>
    (flotsamref07_Form (a0, ())).bind fun y38 =>
    some (y37.1 == y38.1, ())
  else
  (heap_Find (a0, a1, ())).bind fun y39 =>
  (flotsamref07_Find (a0, a1, ())).bind fun y40 =>
  bif y39.1 == y40.1 then
    bif y39.2.1 == y40.2.1 then
      bif y39.2.2.1 == y40.2.2.1 then
        (heap_Used (a0, ())).bind fun y41 =>
        (flotsamref07_Used (a0, ())).bind fun y42 =>
        some (y41.1 == y42.1, ())
      else
      some (false, ())
    else
    some (false, ())
  else
  some (false, ())
def flotsamlaw07_HeapForms (x : Heap × Val) : Option (Bool × Unit) := flotsamlaw07_HeapForms_r x.1 x.2.1 x.2.2.1
noncomputable def flotsamlaw07_HeapForms_sm : Sum := ⟨(.cons cHeap cVal), (.cons (.d .bool) .nil), flotsamlaw07_HeapForms⟩
noncomputable def flotsamlaw07_HeapForms_S : List (Nat × Sum) := [(21, flotsamref07_Form_sm), (31, flotsamref07_Same_sm), (43, flotsamlaw07_awake_sm), (44, heap_New_sm), (45, flotsamref07_Made_sm), (46, heap_Form_sm), (47, heap_Find_sm), (48, flotsamref07_Find_sm), (49, heap_Used_sm), (50, flotsamref07_Used_sm)]
noncomputable def flotsamlaw07_HeapForms_fl : List (Nat × Func) := []
noncomputable def flotsamlaw07_HeapForms_es : List AE := []
theorem flotsamlaw07_HeapForms_den : (fun x => denFun TEv (look1 flotsamlaw07_HeapForms_S) (look1 flotsamlaw07_HeapForms_fl) (annOf flotsamlaw07_HeapForms_es) 8 10 Go.Proofs.Tryd.f10 flotsamlaw07_HeapForms_sm.a flotsamlaw07_HeapForms_sm.r x) = flotsamlaw07_HeapForms_sm.F := by kernel_rfl
theorem flotsamlaw07_HeapForms_sem : SemOf Go.Proofs.Tryd.prog 10 flotsamlaw07_HeapForms_sm :=
  semMk teOk (sl := flotsamlaw07_HeapForms_S) (all_cons flotsamref07_Form_sem (all_cons flotsamref07_Same_sem (all_cons flotsamlaw07_awake_sem (all_cons heap_New_sem (all_cons flotsamref07_Made_sem (all_cons heap_Form_sem (all_cons heap_Find_sem (all_cons flotsamref07_Find_sem (all_cons heap_Used_sem (all_cons flotsamref07_Used_sem all_nil)))))))))) (fl := flotsamlaw07_HeapForms_fl) (all_nil) (es := flotsamlaw07_HeapForms_es) Go.Proofs.Tryd.func10 (by kernel_rfl) rfl (all_nil) rfl flotsamlaw07_HeapForms_den
end Go.Proofs.YtdfhopakojmjkaaDoor.Dfk
