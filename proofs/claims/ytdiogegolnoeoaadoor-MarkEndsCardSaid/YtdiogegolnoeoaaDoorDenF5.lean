/- What functions come to. Printed by a program of this session. -/
import Derived.Test.YtdiogegolnoeoaaDoorDenF4
namespace Go.Proofs.YtdiogegolnoeoaaDoor.Den
open Go
set_option maxRecDepth 100000
set_option linter.unusedVariables false
/-! ### flotsam/grey.New -/
def grey_New_r (a0 : Int) : Option (Grey × Bool × Unit) :=
  bif decide (a0 < 0) then
    some ((0, [], ()), false, ())
  else
  bif decide (a0 > 16) then
    some ((0, [], ()), false, ())
  else
  some ((a0, [], ()), true, ())
def grey_New (x : Int × Unit) : Option (Grey × Bool × Unit) := grey_New_r x.1
noncomputable def grey_New_sm : Sum := ⟨(.cons cI .nil), (.cons (.cons (.d cI) (.cons (.own cI) .nil)) (.cons (.d .bool) .nil)), grey_New⟩
noncomputable def grey_New_S : List (Nat × Sum) := []
noncomputable def grey_New_fl : List (Nat × Func) := []
noncomputable def grey_New_es : List AE := []
theorem grey_New_den : (fun x => denFun TEv (look1 grey_New_S) (look1 grey_New_fl) (annOf grey_New_es) 8 44 Go.Proofs.Tryd.f44 grey_New_sm.a grey_New_sm.r x) = grey_New_sm.F := by kernel_rfl
theorem grey_New_sem : SemOf Go.Proofs.Tryd.prog 44 grey_New_sm :=
  semMk teOk (sl := grey_New_S) (all_nil) (fl := grey_New_fl) (all_nil) (es := grey_New_es) Go.Proofs.Tryd.func44 (by kernel_rfl) rfl (rng_none (by kernel_rfl) (by kernel_rfl)) (all_nil) rfl grey_New_den

/-! ### flotsam/mark.New -/
def mark_New_s0r (v28 : List Int) (v29 : Int) (v30 : Int) (c0_0 : Int) (c0_1 : Unit) (c0_2 : Int × Int × Int × Bool × Unit) (c80_0 : Int) (c80_1 : Unit) (c80_2 : Int × Int × Int × Bool × Unit) (r48 : List Val) (r128 : List Int) (r368 : List Grey) : Option (SRes (.cons (.sl cI) (.cons cI (.cons cI (.cons cI (.cons .nil (.cons (.cons cI (.cons cI (.cons cI (.cons .bool .nil)))) (.cons cI (.cons .nil (.cons (.cons cI (.cons cI (.cons cI (.cons .bool .nil)))) (.cons (.sl cVal) (.cons (.sl cI) (.cons (.sl cGrey) .nil)))))))))))) (.cons cI (.cons .nil (.cons (.cons cI (.cons cI (.cons cI (.cons .bool .nil)))) (.cons cI (.cons .nil (.cons (.cons cI (.cons cI (.cons cI (.cons .bool .nil)))) (.cons (.sl cVal) (.cons (.sl cI) (.cons (.sl cGrey) .nil))))))))) (.cons .bool (.cons cI (.cons .nil (.cons (.cons cI (.cons cI (.cons cI (.cons .bool .nil)))) .nil))))) :=
  bif decide (v30 < v29) then
    bif decide (0 ≤ v30) then
      bif decide (v30 < (v28.length : Int)) then
        (grey_New (v28.getD v30.toNat 0, ())).bind fun y3 =>
        bif !y3.2.1 then
          some (.fin (.ret (false, 0, (), (0, 0, 0, false, ()), ())))
        else
        bif decide ((r368.length + 1) * 32 ≤ 140737488355328) then
          some (.next (v28, v29, wi64 (v30 + 1), c0_0, c0_1, c0_2, c80_0, c80_1, c80_2, r48, r128, r368 ++ [(y3.1.1, y3.1.2.1, ())], ()))
        else none
      else none
    else none
  else
  some (.fin (.out (c0_0, c0_1, c0_2, c80_0, c80_1, c80_2, r48, r128, r368, ())))
def mark_New_s0 (x : (List Int) × Int × Int × Int × Unit × (Int × Int × Int × Bool × Unit) × Int × Unit × (Int × Int × Int × Bool × Unit) × (List Val) × (List Int) × (List Grey) × Unit) : Option (SRes (.cons (.sl cI) (.cons cI (.cons cI (.cons cI (.cons .nil (.cons (.cons cI (.cons cI (.cons cI (.cons .bool .nil)))) (.cons cI (.cons .nil (.cons (.cons cI (.cons cI (.cons cI (.cons .bool .nil)))) (.cons (.sl cVal) (.cons (.sl cI) (.cons (.sl cGrey) .nil)))))))))))) (.cons cI (.cons .nil (.cons (.cons cI (.cons cI (.cons cI (.cons .bool .nil)))) (.cons cI (.cons .nil (.cons (.cons cI (.cons cI (.cons cI (.cons .bool .nil)))) (.cons (.sl cVal) (.cons (.sl cI) (.cons (.sl cGrey) .nil))))))))) (.cons .bool (.cons cI (.cons .nil (.cons (.cons cI (.cons cI (.cons cI (.cons .bool .nil)))) .nil))))) := mark_New_s0r x.1 x.2.1 x.2.2.1 x.2.2.2.1 x.2.2.2.2.1 x.2.2.2.2.2.1 x.2.2.2.2.2.2.1 x.2.2.2.2.2.2.2.1 x.2.2.2.2.2.2.2.2.1 x.2.2.2.2.2.2.2.2.2.1 x.2.2.2.2.2.2.2.2.2.2.1 x.2.2.2.2.2.2.2.2.2.2.2.1
def mark_New_l0 (x : (List Int) × Int × Int × Int × Unit × (Int × Int × Int × Bool × Unit) × Int × Unit × (Int × Int × Int × Bool × Unit) × (List Val) × (List Int) × (List Grey) × Unit) : Option (LRes (.cons cI (.cons .nil (.cons (.cons cI (.cons cI (.cons cI (.cons .bool .nil)))) (.cons cI (.cons .nil (.cons (.cons cI (.cons cI (.cons cI (.cons .bool .nil)))) (.cons (.sl cVal) (.cons (.sl cI) (.cons (.sl cGrey) .nil))))))))) (.cons .bool (.cons cI (.cons .nil (.cons (.cons cI (.cons cI (.cons cI (.cons .bool .nil)))) .nil))))) := iterL (h := (.cons (.sl cI) (.cons cI (.cons cI (.cons cI (.cons .nil (.cons (.cons cI (.cons cI (.cons cI (.cons .bool .nil)))) (.cons cI (.cons .nil (.cons (.cons cI (.cons cI (.cons cI (.cons .bool .nil)))) (.cons (.sl cVal) (.cons (.sl cI) (.cons (.sl cGrey) .nil))))))))))))) (o := (.cons cI (.cons .nil (.cons (.cons cI (.cons cI (.cons cI (.cons .bool .nil)))) (.cons cI (.cons .nil (.cons (.cons cI (.cons cI (.cons cI (.cons .bool .nil)))) (.cons (.sl cVal) (.cons (.sl cI) (.cons (.sl cGrey) .nil)))))))))) (r := (.cons .bool (.cons cI (.cons .nil (.cons (.cons cI (.cons cI (.cons cI (.cons .bool .nil)))) .nil))))) mark_New_s0 9223372036854775808 x
def mark_New_r (a0 : Int) (a1 : List Int) (a2 : List Val) : Option (Marker × Bool × Unit) :=
  (slices_Clone_api_Value (a2, ())).bind fun y1 =>
  (grey_New (a0, ())).bind fun y2 =>
  bif !y2.2.1 then
    some (((0, [], ()), [], [], 0, 0, 0, false, ()), false, ())
  else
  (mark_New_l0 (a1, (a1.length : Int), 0, 0, (), (0, 0, 0, false, ()), y2.1.1, (), ((-1), 0, (-1), false, ()), y1.1, y2.1.2.1, [], ())).bind fun s4 => match s4 with
  | .out s4 =>
    some (((s4.2.2.2.1, s4.2.2.2.2.2.2.2.1, s4.2.2.2.2.1), s4.2.2.2.2.2.2.2.2.1, s4.2.2.2.2.2.2.1, s4.2.2.2.2.2.1), true, ())
  | .ret s4 =>
    some (((s4.2.1, [], s4.2.2.1), [], [], s4.2.2.2.1), s4.1, ())
def mark_New (x : Int × (List Int) × (List Val) × Unit) : Option (Marker × Bool × Unit) := mark_New_r x.1 x.2.1 x.2.2.1
noncomputable def mark_New_sm : Sum := ⟨(.cons cI (.cons (.sl cI) (.cons (.sl cVal) .nil))), (.cons (.cons (.cons (.d cI) (.cons (.own cI) (.d .nil))) (.cons (.own cGrey) (.cons (.own cVal) (.d (.cons cI (.cons cI (.cons cI (.cons .bool .nil)))))))) (.cons (.d .bool) .nil)), mark_New⟩
noncomputable def mark_New_L0 : LoopSum := { hc := ⟨[], [6, 8, 28, 29, 30], [(.key 80 [.fld 1], cGrey)], [], [0, 80], [48, 128], 368⟩, h := ⟨[(6, (.pvar 0 [])), (8, (.pvar 80 [])), (28, (.d (.sl cI))), (29, (.d cI)), (30, (.d cI))], [(0, (.cons (.cons (.d cI) (.cons .nilsl (.d .nil))) (.cons .nilsl (.cons .nilsl (.d (.cons cI (.cons cI (.cons cI (.cons .bool .nil))))))))), (80, (.cons (.cons (.d cI) (.cons (.row 128) (.d .nil))) (.cons (.row 368) (.cons (.row 48) (.d (.cons cI (.cons cI (.cons cI (.cons .bool .nil)))))))))], [(48, cVal, true), (128, cI, true), (368, cGrey, true)], 369⟩, xid := 0, oc := ⟨[], [6, 8], [(.ptr 8 [.fld 1], cGrey)], [], [0, 80], [48, 128], 368⟩, o := ⟨[(6, (.pvar 0 [])), (8, (.pvar 80 []))], [(0, (.cons (.cons (.d cI) (.cons .nilsl (.d .nil))) (.cons .nilsl (.cons .nilsl (.d (.cons cI (.cons cI (.cons cI (.cons .bool .nil))))))))), (80, (.cons (.cons (.d cI) (.cons (.row 128) (.d .nil))) (.cons (.row 368) (.cons (.row 48) (.d (.cons cI (.cons cI (.cons cI (.cons .bool .nil)))))))))], [(48, cVal, true), (128, cI, true), (368, cGrey, true)], 369⟩, rc := ⟨[], [6, 7], [], [], [0], [], 368⟩, r := ⟨[(6, (.pvar 0 [])), (7, (.d .bool))], [(0, (.cons (.cons (.d cI) (.cons .nilsl (.d .nil))) (.cons .nilsl (.cons .nilsl (.d (.cons cI (.cons cI (.cons cI (.cons .bool .nil)))))))))], [], 368⟩, F := mark_New_l0 }
noncomputable def mark_New_S : List (Nat × Sum) := [(43, slices_Clone_api_Value_sm), (44, grey_New_sm)]
noncomputable def mark_New_fl : List (Nat × Func) := []
noncomputable def mark_New_es : List AE := [⟨8, 21, 0, 0, mark_New_L0⟩]
theorem mark_New_den0 : (fun x => denStep TEv (look1 mark_New_S) (look1 mark_New_fl) (annOf mark_New_es) 8 21 Go.Proofs.Tryd.f21.ntmps 0 (cat (bodyOf Go.Proofs.Tryd.f21) [true, true, true, true, true, false, true, false, false]) mark_New_L0 x) = mark_New_s0 := by kernel_rfl
theorem mark_New_den : (fun x => denFun TEv (look1 mark_New_S) (look1 mark_New_fl) (annOf mark_New_es) 8 21 Go.Proofs.Tryd.f21 mark_New_sm.a mark_New_sm.r x) = mark_New_sm.F := by kernel_rfl
theorem mark_New_ok0 : AEok Go.Proofs.Tryd.prog TEv (look1 mark_New_S) (look1 mark_New_fl) (annOf mark_New_es) ⟨8, 21, 0, 0, mark_New_L0⟩ := aeok_of 9223372036854775808 Go.Proofs.Tryd.func21 (by kernel_rfl) mark_New_den0 (by kernel_rfl)
theorem mark_New_sem : SemOf Go.Proofs.Tryd.prog 21 mark_New_sm :=
  semMk teOk (sl := mark_New_S) (all_cons slices_Clone_api_Value_sem (all_cons grey_New_sem all_nil)) (fl := mark_New_fl) (all_nil) (es := mark_New_es) Go.Proofs.Tryd.func21 (by kernel_rfl) rfl (rng_none (by kernel_rfl) (by kernel_rfl)) (all_cons mark_New_ok0 (all_nil)) rfl mark_New_den

/-! ### flotsam/mark.Note -/
def mark_Note_r (a0 : Heap) (a1 : Marker) (a2 : Int) (a3 : Val) : Option (Heap × Marker × Unit) :=
  bif decide (0 ≤ a2) then
    bif decide (a2 < (a1.2.1.length : Int)) then
      (shade_Shade (a0, a1.2.1.getD a2.toNat (0, [], ()), a3, ())).bind fun y1 =>
      (slices_Clone_api_Grey (a1.2.1, ())).bind fun y2 =>
      bif decide (0 ≤ a2) then
        bif decide (a2 < (y2.1.length : Int)) then
          bif a1.2.2.2.2.2.2.1 then
            some (y1.1, (a1.1, y2.1.set a2.toNat y1.2.1, a1.2.2.1, a1.2.2.2.1, a1.2.2.2.2.1, a1.2.2.2.2.2.1, true, a1.2.2.2.2.2.2.2), ())
          else
          some (y1.1, (a1.1, y2.1.set a2.toNat y1.2.1, a1.2.2.1, a1.2.2.2.1, a1.2.2.2.2.1, a1.2.2.2.2.2.1, y1.2.2.1, a1.2.2.2.2.2.2.2), ())
        else none
      else none
    else none
  else none
def mark_Note (x : Heap × Marker × Int × Val × Unit) : Option (Heap × Marker × Unit) := mark_Note_r x.1 x.2.1 x.2.2.1 x.2.2.2.1
noncomputable def mark_Note_sm : Sum := ⟨(.cons cHeap (.cons cMarker (.cons cI (.cons cVal .nil)))), (.cons (.d cHeap) (.cons (.cons (.d cGrey) (.cons (.own cGrey) (.d (.cons (.sl cVal) (.cons cI (.cons cI (.cons cI (.cons .bool .nil)))))))) .nil)), mark_Note⟩
noncomputable def mark_Note_S : List (Nat × Sum) := [(45, shade_Shade_sm), (46, slices_Clone_api_Grey_sm)]
noncomputable def mark_Note_fl : List (Nat × Func) := []
noncomputable def mark_Note_es : List AE := []
theorem mark_Note_den : (fun x => denFun TEv (look1 mark_Note_S) (look1 mark_Note_fl) (annOf mark_Note_es) 8 22 Go.Proofs.Tryd.f22 mark_Note_sm.a mark_Note_sm.r x) = mark_Note_sm.F := by kernel_rfl
theorem mark_Note_sem : SemOf Go.Proofs.Tryd.prog 22 mark_Note_sm :=
  semMk teOk (sl := mark_Note_S) (all_cons shade_Shade_sem (all_cons slices_Clone_api_Grey_sem all_nil)) (fl := mark_Note_fl) (all_nil) (es := mark_Note_es) Go.Proofs.Tryd.func22 (by kernel_rfl) rfl (rng_none (by kernel_rfl) (by kernel_rfl)) (all_nil) rfl mark_Note_den

/-! ### flotsam/flotsamlaw17.small -/
def flotsamlaw17_small_r  : Option (Heap × Unit) :=
  (flotsamref07_Made (1, [(0, 0, 0, ()), (1, 0, 0, ()), (5, 0, 0, ())], ())).bind fun y1 =>
  some (y1.1, ())
def flotsamlaw17_small (x : Unit) : Option (Heap × Unit) := flotsamlaw17_small_r 
noncomputable def flotsamlaw17_small_sm : Sum := ⟨.nil, (.cons (.d cHeap) .nil), flotsamlaw17_small⟩
noncomputable def flotsamlaw17_small_S : List (Nat × Sum) := [(58, flotsamref07_Made_sm)]
noncomputable def flotsamlaw17_small_fl : List (Nat × Func) := []
noncomputable def flotsamlaw17_small_es : List AE := []
theorem flotsamlaw17_small_den : (fun x => denFun TEv (look1 flotsamlaw17_small_S) (look1 flotsamlaw17_small_fl) (annOf flotsamlaw17_small_es) 8 29 Go.Proofs.Tryd.f29 flotsamlaw17_small_sm.a flotsamlaw17_small_sm.r x) = flotsamlaw17_small_sm.F := by kernel_rfl
theorem flotsamlaw17_small_sem : SemOf Go.Proofs.Tryd.prog 29 flotsamlaw17_small_sm :=
  semMk teOk (sl := flotsamlaw17_small_S) (all_cons flotsamref07_Made_sem all_nil) (fl := flotsamlaw17_small_fl) (all_nil) (es := flotsamlaw17_small_es) Go.Proofs.Tryd.func29 (by kernel_rfl) rfl (rng_none (by kernel_rfl) (by kernel_rfl)) (all_nil) rfl flotsamlaw17_small_den

/-! ### flotsam/flotsamref08.Black -/
def flotsamref08_Black_r (a0 : Heap) (a1 : Int) : Option (Bool × Unit) :=
  (flotsamref08_Get (a0, a1, ())).bind fun y1 =>
  bif y1.2.1 then
    some (y1.1.2.1 == a0.2.2.1, ())
  else
  some (false, ())
def flotsamref08_Black (x : Heap × Int × Unit) : Option (Bool × Unit) := flotsamref08_Black_r x.1 x.2.1
noncomputable def flotsamref08_Black_sm : Sum := ⟨(.cons cHeap (.cons cI .nil)), (.cons (.d .bool) .nil), flotsamref08_Black⟩
noncomputable def flotsamref08_Black_S : List (Nat × Sum) := [(33, flotsamref08_Get_sm)]
noncomputable def flotsamref08_Black_fl : List (Nat × Func) := []
noncomputable def flotsamref08_Black_es : List AE := []
theorem flotsamref08_Black_den : (fun x => denFun TEv (look1 flotsamref08_Black_S) (look1 flotsamref08_Black_fl) (annOf flotsamref08_Black_es) 8 30 Go.Proofs.Tryd.f30 flotsamref08_Black_sm.a flotsamref08_Black_sm.r x) = flotsamref08_Black_sm.F := by kernel_rfl
theorem flotsamref08_Black_sem : SemOf Go.Proofs.Tryd.prog 30 flotsamref08_Black_sm :=
  semMk teOk (sl := flotsamref08_Black_S) (all_cons flotsamref08_Get_sem all_nil) (fl := flotsamref08_Black_fl) (all_nil) (es := flotsamref08_Black_es) Go.Proofs.Tryd.func30 (by kernel_rfl) rfl (rng_none (by kernel_rfl) (by kernel_rfl)) (all_nil) rfl flotsamref08_Black_den

/-! ### flotsam/grey.Right$1 -/
def grey_Right_1_r (a0 : Int) : Option (Bool × Unit) :=
  some (decide (a0 < 0), ())
def grey_Right_1 (x : Int × Unit) : Option (Bool × Unit) := grey_Right_1_r x.1
noncomputable def grey_Right_1_sm : Sum := ⟨(.cons cI .nil), (.cons (.d .bool) .nil), grey_Right_1⟩
noncomputable def grey_Right_1_S : List (Nat × Sum) := []
noncomputable def grey_Right_1_fl : List (Nat × Func) := []
noncomputable def grey_Right_1_es : List AE := []
theorem grey_Right_1_den : (fun x => denFun TEv (look1 grey_Right_1_S) (look1 grey_Right_1_fl) (annOf grey_Right_1_es) 8 93 Go.Proofs.Tryd.f93 grey_Right_1_sm.a grey_Right_1_sm.r x) = grey_Right_1_sm.F := by kernel_rfl
theorem grey_Right_1_sem : SemOf Go.Proofs.Tryd.prog 93 grey_Right_1_sm :=
  semMk teOk (sl := grey_Right_1_S) (all_nil) (fl := grey_Right_1_fl) (all_nil) (es := grey_Right_1_es) Go.Proofs.Tryd.func93 (by kernel_rfl) rfl (rng_none (by kernel_rfl) (by kernel_rfl)) (all_nil) rfl grey_Right_1_den

/-! ### flotsam/grey.Right -/
def grey_Right_s0r (v0 : List Int) (v7 : Int) (v8 : Int) (c0 : Grey) : Option (SRes (.cons (.sl cI) (.cons cI (.cons cI (.cons cGrey .nil)))) (.cons cGrey .nil) (.cons cI (.cons cGrey .nil))) :=
  bif decide (v8 < v7) then
    bif decide (0 ≤ v8) then
      bif decide (v8 < (v0.length : Int)) then
        (grey_Right_1 (v0.getD v8.toNat 0, ())).bind fun y1 =>
        bif y1.1 then
          some (.fin (.ret (v8, c0, ())))
        else
        some (.next (v0, v7, wi64 (v8 + 1), c0, ()))
      else none
    else none
  else
  some (.fin (.out (c0, ())))
def grey_Right_s0 (x : (List Int) × Int × Int × Grey × Unit) : Option (SRes (.cons (.sl cI) (.cons cI (.cons cI (.cons cGrey .nil)))) (.cons cGrey .nil) (.cons cI (.cons cGrey .nil))) := grey_Right_s0r x.1 x.2.1 x.2.2.1 x.2.2.2.1
def grey_Right_l0 (x : (List Int) × Int × Int × Grey × Unit) : Option (LRes (.cons cGrey .nil) (.cons cI (.cons cGrey .nil))) := iterL (h := (.cons (.sl cI) (.cons cI (.cons cI (.cons cGrey .nil))))) (o := (.cons cGrey .nil)) (r := (.cons cI (.cons cGrey .nil))) grey_Right_s0 9223372036854775808 x
def grey_Right_r (a0 : Grey) : Option (Bool × Unit) :=
  (grey_Right_l0 (a0.2.1, (a0.2.1.length : Int), 0, a0, ())).bind fun s2 => match s2 with
  | .out s2 =>
    bif decide (s2.1.1 ≥ 0) then
      bif decide (s2.1.1 ≤ 16) then
        bif decide ((s2.1.2.1.length : Int) ≤ s2.1.1) then
          some (true, ())
        else
        some (false, ())
      else
      some (false, ())
    else
    some (false, ())
  | .ret s2 =>
    bif decide (s2.2.1.1 ≥ 0) then
      bif decide (s2.2.1.1 ≤ 16) then
        bif decide ((s2.2.1.2.1.length : Int) ≤ s2.2.1.1) then
          some (!(decide (s2.1 ≥ 0)), ())
        else
        some (false, ())
      else
      some (false, ())
    else
    some (false, ())
def grey_Right (x : Grey × Unit) : Option (Bool × Unit) := grey_Right_r x.1
noncomputable def grey_Right_sm : Sum := ⟨(.cons cGrey .nil), (.cons (.d .bool) .nil), grey_Right⟩
noncomputable def grey_Right_L0 : LoopSum := { hc := ⟨[], [0, 1, 7, 8], [], [], [0], [], 256⟩, h := ⟨[(0, (.d (.sl cI))), (1, (.fn 93 .nil .nil)), (7, (.d cI)), (8, (.d cI))], [(0, (.d cGrey))], [], 256⟩, xid := 0, oc := ⟨[], [], [], [], [0], [], 256⟩, o := ⟨[], [(0, (.d cGrey))], [], 256⟩, rc := ⟨[], [4], [], [], [0], [], 256⟩, r := ⟨[(4, (.d cI))], [(0, (.d cGrey))], [], 256⟩, F := grey_Right_l0 }
noncomputable def grey_Right_S : List (Nat × Sum) := [(93, grey_Right_1_sm)]
noncomputable def grey_Right_fl : List (Nat × Func) := [(92, Go.Proofs.Tryd.f92), (103, Go.Proofs.Tryd.f103)]
noncomputable def grey_Right_es : List AE := [⟨6, 103, 192, 0, grey_Right_L0⟩]
theorem grey_Right_den0 : (fun x => denStep TEv (look1 grey_Right_S) (look1 grey_Right_fl) (annOf grey_Right_es) 6 103 Go.Proofs.Tryd.f103.ntmps 192 (cat (bodyOf Go.Proofs.Tryd.f103) [true, false, true, false, false]) grey_Right_L0 x) = grey_Right_s0 := by kernel_rfl
theorem grey_Right_den : (fun x => denFun TEv (look1 grey_Right_S) (look1 grey_Right_fl) (annOf grey_Right_es) 8 61 Go.Proofs.Tryd.f61 grey_Right_sm.a grey_Right_sm.r x) = grey_Right_sm.F := by kernel_rfl
theorem grey_Right_ok0 : AEok Go.Proofs.Tryd.prog TEv (look1 grey_Right_S) (look1 grey_Right_fl) (annOf grey_Right_es) ⟨6, 103, 192, 0, grey_Right_L0⟩ := aeok_of 9223372036854775808 Go.Proofs.Tryd.func103 (by kernel_rfl) grey_Right_den0 (by kernel_rfl)
theorem grey_Right_sem : SemOf Go.Proofs.Tryd.prog 61 grey_Right_sm :=
  semMk teOk (sl := grey_Right_S) (all_cons grey_Right_1_sem all_nil) (fl := grey_Right_fl) (all_cons ⟨⟨Go.Proofs.Tryd.func92, by kernel_rfl⟩, rng_none (by kernel_rfl) (by kernel_rfl)⟩ (all_cons ⟨⟨Go.Proofs.Tryd.func103, by kernel_rfl⟩, rng_none (by kernel_rfl) (by kernel_rfl)⟩ (all_nil))) (es := grey_Right_es) Go.Proofs.Tryd.func61 (by kernel_rfl) rfl (rng_none (by kernel_rfl) (by kernel_rfl)) (all_cons grey_Right_ok0 (all_nil)) rfl grey_Right_den

/-! ### flotsam/mark.Right$1 -/
def mark_Right_1_r (a0 : Grey) : Option (Bool × Unit) :=
  (grey_Right (a0, ())).bind fun y1 =>
  some (!y1.1, ())
def mark_Right_1 (x : Grey × Unit) : Option (Bool × Unit) := mark_Right_1_r x.1
noncomputable def mark_Right_1_sm : Sum := ⟨(.cons cGrey .nil), (.cons (.d .bool) .nil), mark_Right_1⟩
noncomputable def mark_Right_1_S : List (Nat × Sum) := [(61, grey_Right_sm)]
noncomputable def mark_Right_1_fl : List (Nat × Func) := []
noncomputable def mark_Right_1_es : List AE := []
theorem mark_Right_1_den : (fun x => denFun TEv (look1 mark_Right_1_S) (look1 mark_Right_1_fl) (annOf mark_Right_1_es) 8 60 Go.Proofs.Tryd.f60 mark_Right_1_sm.a mark_Right_1_sm.r x) = mark_Right_1_sm.F := by kernel_rfl
theorem mark_Right_1_sem : SemOf Go.Proofs.Tryd.prog 60 mark_Right_1_sm :=
  semMk teOk (sl := mark_Right_1_S) (all_cons grey_Right_sem all_nil) (fl := mark_Right_1_fl) (all_nil) (es := mark_Right_1_es) Go.Proofs.Tryd.func60 (by kernel_rfl) rfl (rng_none (by kernel_rfl) (by kernel_rfl)) (all_nil) rfl mark_Right_1_den

/-! ### flotsam/mark.Right -/
def mark_Right_s0r (v0 : List Grey) (v7 : Int) (v8 : Int) (c0 : Heap) (c16 : Marker) : Option (SRes (.cons (.sl cGrey) (.cons cI (.cons cI (.cons cHeap (.cons cMarker .nil))))) (.cons cHeap (.cons cMarker .nil)) (.cons cI (.cons cHeap (.cons cMarker .nil)))) :=
  bif decide (v8 < v7) then
    bif decide (0 ≤ v8) then
      bif decide (v8 < (v0.length : Int)) then
        (mark_Right_1 (v0.getD v8.toNat (0, [], ()), ())).bind fun y2 =>
        bif y2.1 then
          some (.fin (.ret (v8, c0, c16, ())))
        else
        some (.next (v0, v7, wi64 (v8 + 1), c0, c16, ()))
      else none
    else none
  else
  some (.fin (.out (c0, c16, ())))
def mark_Right_s0 (x : (List Grey) × Int × Int × Heap × Marker × Unit) : Option (SRes (.cons (.sl cGrey) (.cons cI (.cons cI (.cons cHeap (.cons cMarker .nil))))) (.cons cHeap (.cons cMarker .nil)) (.cons cI (.cons cHeap (.cons cMarker .nil)))) := mark_Right_s0r x.1 x.2.1 x.2.2.1 x.2.2.2.1 x.2.2.2.2.1
def mark_Right_l0 (x : (List Grey) × Int × Int × Heap × Marker × Unit) : Option (LRes (.cons cHeap (.cons cMarker .nil)) (.cons cI (.cons cHeap (.cons cMarker .nil)))) := iterL (h := (.cons (.sl cGrey) (.cons cI (.cons cI (.cons cHeap (.cons cMarker .nil)))))) (o := (.cons cHeap (.cons cMarker .nil))) (r := (.cons cI (.cons cHeap (.cons cMarker .nil)))) mark_Right_s0 9223372036854775808 x
def mark_Right_r (a0 : Heap) (a1 : Marker) : Option (Bool × Unit) :=
  (object_Get (a0, a1.2.2.2.1, ())).bind fun y1 =>
  bif a1.2.2.2.1 == (-1) then
    bif a1.2.2.2.2.1 == 0 then
      (mark_Right_l0 (a1.2.1, (a1.2.1.length : Int), 0, a0, a1, ())).bind fun s3 => match s3 with
      | .out s3 =>
        (grey_Right (s3.2.1.1, ())).bind fun y4 =>
        bif y4.1 then
          bif decide (s3.2.1.2.2.2.2.2.1 ≥ (-1)) then
            some (decide (s3.2.1.2.2.2.2.2.1 ≤ (s3.1.1.length : Int)), ())
          else
          some (false, ())
        else
        some (false, ())
      | .ret s3 =>
        bif !(decide (s3.1 ≥ 0)) then
          (grey_Right (s3.2.2.1.1, ())).bind fun y5 =>
          bif y5.1 then
            bif decide (s3.2.2.1.2.2.2.2.2.1 ≥ (-1)) then
              some (decide (s3.2.2.1.2.2.2.2.2.1 ≤ (s3.2.1.1.length : Int)), ())
            else
            some (false, ())
          else
          some (false, ())
        else
        some (false, ())
    else
    bif y1.2.1 then
      bif decide (a1.2.2.2.2.1 ≥ 0) then
        (mark_Right_l0 (a1.2.1, (a1.2.1.length : Int), 0, a0, a1, ())).bind fun s6 => match s6 with
        | .out s6 =>
          bif decide (a1.2.2.2.2.1 < y1.1.2.2.2.1) then
            (grey_Right (s6.2.1.1, ())).bind fun y7 =>
            bif y7.1 then
              bif decide (s6.2.1.2.2.2.2.2.1 ≥ (-1)) then
                some (decide (s6.2.1.2.2.2.2.2.1 ≤ (s6.1.1.length : Int)), ())
              else
              some (false, ())
            else
            some (false, ())
          else
          some (false, ())
        | .ret s6 =>
          bif decide (a1.2.2.2.2.1 < y1.1.2.2.2.1) then
            bif !(decide (s6.1 ≥ 0)) then
              (grey_Right (s6.2.2.1.1, ())).bind fun y8 =>
              bif y8.1 then
                bif decide (s6.2.2.1.2.2.2.2.2.1 ≥ (-1)) then
                  some (decide (s6.2.2.1.2.2.2.2.2.1 ≤ (s6.2.1.1.length : Int)), ())
                else
                some (false, ())
              else
              some (false, ())
            else
            some (false, ())
          else
          some (false, ())
      else
      (mark_Right_l0 (a1.2.1, (a1.2.1.length : Int), 0, a0, a1, ())).bind fun s9 => match s9 with
      | .out s9 =>
        some (false, ())
      | .ret s9 =>
        some (false, ())
    else
    (mark_Right_l0 (a1.2.1, (a1.2.1.length : Int), 0, a0, a1, ())).bind fun s10 => match s10 with
    | .out s10 =>
      some (false, ())
    | .ret s10 =>
      some (false, ())
  else
  bif y1.2.1 then
    bif decide (a1.2.2.2.2.1 ≥ 0) then
      (mark_Right_l0 (a1.2.1, (a1.2.1.length : Int), 0, a0, a1, ())).bind fun s11 => match s11 with
      | .out s11 =>
        bif decide (a1.2.2.2.2.1 < y1.1.2.2.2.1) then
          (grey_Right (s11.2.1.1, ())).bind fun y12 =>
          bif y12.1 then
            bif decide (s11.2.1.2.2.2.2.2.1 ≥ (-1)) then
              some (decide (s11.2.1.2.2.2.2.2.1 ≤ (s11.1.1.length : Int)), ())
            else
            some (false, ())
          else
          some (false, ())
        else
        some (false, ())
      | .ret s11 =>
        bif decide (a1.2.2.2.2.1 < y1.1.2.2.2.1) then
          bif !(decide (s11.1 ≥ 0)) then
            (grey_Right (s11.2.2.1.1, ())).bind fun y13 =>
            bif y13.1 then
              bif decide (s11.2.2.1.2.2.2.2.2.1 ≥ (-1)) then
                some (decide (s11.2.2.1.2.2.2.2.2.1 ≤ (s11.2.1.1.length : Int)), ())
              else
              some (false, ())
            else
            some (false, ())
          else
          some (false, ())
        else
        some (false, ())
    else
    (mark_Right_l0 (a1.2.1, (a1.2.1.length : Int), 0, a0, a1, ())).bind fun s14 => match s14 with
    | .out s14 =>
      some (false, ())
    | .ret s14 =>
      some (false, ())
  else
  (mark_Right_l0 (a1.2.1, (a1.2.1.length : Int), 0, a0, a1, ())).bind fun s15 => match s15 with
  | .out s15 =>
    some (false, ())
  | .ret s15 =>
    some (false, ())
def mark_Right (x : Heap × Marker × Unit) : Option (Bool × Unit) := mark_Right_r x.1 x.2.1
noncomputable def mark_Right_sm : Sum := ⟨(.cons cHeap (.cons cMarker .nil)), (.cons (.d .bool) .nil), mark_Right⟩
noncomputable def mark_Right_L0 : LoopSum := { hc := ⟨[], [0, 1, 7, 8], [], [], [0, 16], [], 816⟩, h := ⟨[(0, (.d (.sl cGrey))), (1, (.fn 60 .nil .nil)), (7, (.d cI)), (8, (.d cI))], [(0, (.d cHeap)), (16, (.d cMarker))], [], 816⟩, xid := 0, oc := ⟨[], [], [], [], [0, 16], [], 816⟩, o := ⟨[], [(0, (.d cHeap)), (16, (.d cMarker))], [], 816⟩, rc := ⟨[], [4], [], [], [0, 16], [], 816⟩, r := ⟨[(4, (.d cI))], [(0, (.d cHeap)), (16, (.d cMarker))], [], 816⟩, F := mark_Right_l0 }
noncomputable def mark_Right_S : List (Nat × Sum) := [(53, object_Get_sm), (60, mark_Right_1_sm), (61, grey_Right_sm)]
noncomputable def mark_Right_fl : List (Nat × Func) := [(59, Go.Proofs.Tryd.f59), (68, Go.Proofs.Tryd.f68)]
noncomputable def mark_Right_es : List AE := [⟨6, 68, 752, 0, mark_Right_L0⟩]
theorem mark_Right_den0 : (fun x => denStep TEv (look1 mark_Right_S) (look1 mark_Right_fl) (annOf mark_Right_es) 6 68 Go.Proofs.Tryd.f68.ntmps 752 (cat (bodyOf Go.Proofs.Tryd.f68) [true, false, true, false, false]) mark_Right_L0 x) = mark_Right_s0 := by kernel_rfl
theorem mark_Right_den : (fun x => denFun TEv (look1 mark_Right_S) (look1 mark_Right_fl) (annOf mark_Right_es) 8 31 Go.Proofs.Tryd.f31 mark_Right_sm.a mark_Right_sm.r x) = mark_Right_sm.F := by kernel_rfl
theorem mark_Right_ok0 : AEok Go.Proofs.Tryd.prog TEv (look1 mark_Right_S) (look1 mark_Right_fl) (annOf mark_Right_es) ⟨6, 68, 752, 0, mark_Right_L0⟩ := aeok_of 9223372036854775808 Go.Proofs.Tryd.func68 (by kernel_rfl) mark_Right_den0 (by kernel_rfl)
theorem mark_Right_sem : SemOf Go.Proofs.Tryd.prog 31 mark_Right_sm :=
  semMk teOk (sl := mark_Right_S) (all_cons object_Get_sem (all_cons mark_Right_1_sem (all_cons grey_Right_sem all_nil))) (fl := mark_Right_fl) (all_cons ⟨⟨Go.Proofs.Tryd.func59, by kernel_rfl⟩, rng_none (by kernel_rfl) (by kernel_rfl)⟩ (all_cons ⟨⟨Go.Proofs.Tryd.func68, by kernel_rfl⟩, rng_none (by kernel_rfl) (by kernel_rfl)⟩ (all_nil))) (es := mark_Right_es) Go.Proofs.Tryd.func31 (by kernel_rfl) rfl (rng_none (by kernel_rfl) (by kernel_rfl)) (all_cons mark_Right_ok0 (all_nil)) rfl mark_Right_den

/-! ### flotsam/flotsamlaw17.awake -/
def flotsamlaw17_awake_r  : Option (Bool × Unit) :=
  (flotsamlaw17_small ()).bind fun y1 =>
  (mark_New (1, [2], [(2, 0, ())], ())).bind fun y2 =>
  (mark_New (17, [], [], ())).bind fun y3 =>
  (mark_Step (y1.1, ((y2.1.1.1, y2.1.1.2.1, y2.1.1.2.2), y2.1.2.1, y2.1.2.2.1, y2.1.2.2.2), ())).bind fun y4 =>
  (mark_Step (y4.1, y4.2.1, ())).bind fun y5 =>
  (mark_Step (y5.1, y5.2.1, ())).bind fun y6 =>
  bif (y2.1.2.1.length : Int) != 1 then
    some (false, ())
  else
  (mark_Note (y1.1, ((y2.1.1.1, y2.1.1.2.1, y2.1.1.2.2), y2.1.2.1, y2.1.2.2.1, y2.1.2.2.2), 0, (2, 0, ()), ())).bind fun y7 =>
  bif y2.2.1 then
    bif !y3.2.1 then
      bif !y4.2.2.1 then
        bif !y5.2.2.1 then
          bif y6.2.2.1 then
            (flotsamref08_Black (y4.1, 0, ())).bind fun y8 =>
            bif y8.1 then
              (flotsamref08_Ints (y4.2.1.1.2.1, [0], ())).bind fun y9 =>
              bif y9.1 then
                bif (y5.2.1.1.2.1.length : Int) == 0 then
                  bif y5.2.1.2.2.2.1 == (-1) then
                    (flotsamref08_Black (y7.1, 0, ())).bind fun y10 =>
                    bif y10.1 then
                      bif (y7.2.1.2.1.length : Int) == 1 then
                        bif decide (0 < (y7.2.1.2.1.length : Int)) then
                          (flotsamref08_Ints ((y7.2.1.2.1.getD 0 (0, [], ())).2.1, [0], ())).bind fun y11 =>
                          bif y11.1 then
                            (mark_Right (y1.1, ((y2.1.1.1, y2.1.1.2.1, y2.1.1.2.2), y2.1.2.1, y2.1.2.2.1, y2.1.2.2.2), ())).bind fun y12 =>
                            bif y12.1 then
                              (mark_Right (y1.1, ((0, [], ()), [], [], 0, 0, 0, false, ()), ())).bind fun y13 =>
                              some (!y13.1, ())
                            else
                            some (false, ())
                          else
                          some (false, ())
                        else none
                      else
                      some (false, ())
                    else
                    some (false, ())
                  else
                  some (false, ())
                else
                some (false, ())
              else
              some (false, ())
            else
            some (false, ())
          else
          some (false, ())
        else
        some (false, ())
      else
      some (false, ())
    else
    some (false, ())
  else
  some (false, ())
def flotsamlaw17_awake (x : Unit) : Option (Bool × Unit) := flotsamlaw17_awake_r 
noncomputable def flotsamlaw17_awake_sm : Sum := ⟨.nil, (.cons (.d .bool) .nil), flotsamlaw17_awake⟩
noncomputable def flotsamlaw17_awake_S : List (Nat × Sum) := [(14, mark_Step_sm), (16, flotsamref08_Ints_sm), (21, mark_New_sm), (22, mark_Note_sm), (29, flotsamlaw17_small_sm), (30, flotsamref08_Black_sm), (31, mark_Right_sm)]
noncomputable def flotsamlaw17_awake_fl : List (Nat × Func) := []
noncomputable def flotsamlaw17_awake_es : List AE := []
theorem flotsamlaw17_awake_den : (fun x => denFun TEv (look1 flotsamlaw17_awake_S) (look1 flotsamlaw17_awake_fl) (annOf flotsamlaw17_awake_es) 8 8 Go.Proofs.Tryd.f8 flotsamlaw17_awake_sm.a flotsamlaw17_awake_sm.r x) = flotsamlaw17_awake_sm.F := by kernel_rfl
theorem flotsamlaw17_awake_sem : SemOf Go.Proofs.Tryd.prog 8 flotsamlaw17_awake_sm :=
  semMk teOk (sl := flotsamlaw17_awake_S) (all_cons mark_Step_sem (all_cons flotsamref08_Ints_sem (all_cons mark_New_sem (all_cons mark_Note_sem (all_cons flotsamlaw17_small_sem (all_cons flotsamref08_Black_sem (all_cons mark_Right_sem all_nil))))))) (fl := flotsamlaw17_awake_fl) (all_nil) (es := flotsamlaw17_awake_es) Go.Proofs.Tryd.func8 (by kernel_rfl) rfl (rng_none (by kernel_rfl) (by kernel_rfl)) (all_nil) rfl flotsamlaw17_awake_den

/-! ### flotsam/flotsamref13.Right -/
def flotsamref13_Right_s0r (v3 : Int) (c0 : Grey) : Option (SRes (.cons cI (.cons cGrey .nil)) .nil (.cons .bool .nil)) :=
  bif decide (v3 < (c0.2.1.length : Int)) then
    bif decide (0 ≤ v3) then
      bif decide (v3 < (c0.2.1.length : Int)) then
        bif decide ((c0.2.1.getD v3.toNat 0) < 0) then
          some (.fin (.ret (false, ())))
        else
        some (.next (wi64 (v3 + 1), c0, ()))
      else none
    else none
  else
  some (.fin (.out ()))
def flotsamref13_Right_s0 (x : Int × Grey × Unit) : Option (SRes (.cons cI (.cons cGrey .nil)) .nil (.cons .bool .nil)) := flotsamref13_Right_s0r x.1 x.2.1
def flotsamref13_Right_l0 (x : Int × Grey × Unit) : Option (LRes .nil (.cons .bool .nil)) := iterL (h := (.cons cI (.cons cGrey .nil))) (o := .nil) (r := (.cons .bool .nil)) flotsamref13_Right_s0 9223372036854775808 x
def flotsamref13_Right_r (a0 : Grey) : Option (Bool × Unit) :=
  bif decide (a0.1 < 0) then
    some (false, ())
  else
  bif decide (a0.1 > 16) then
    some (false, ())
  else
  bif decide ((a0.2.1.length : Int) > a0.1) then
    some (false, ())
  else
  (flotsamref13_Right_l0 (0, a0, ())).bind fun s1 => match s1 with
  | .out s1 =>
    some (true, ())
  | .ret s1 =>
    some (s1.1, ())
def flotsamref13_Right (x : Grey × Unit) : Option (Bool × Unit) := flotsamref13_Right_r x.1
noncomputable def flotsamref13_Right_sm : Sum := ⟨(.cons cGrey .nil), (.cons (.d .bool) .nil), flotsamref13_Right⟩
noncomputable def flotsamref13_Right_L0 : LoopSum := { hc := ⟨[], [1, 3], [], [], [0], [], 304⟩, h := ⟨[(1, (.pvar 0 [])), (3, (.d cI))], [(0, (.d cGrey))], [], 304⟩, xid := 0, oc := ⟨[], [], [], [], [], [], 304⟩, o := ⟨[], [], [], 304⟩, rc := ⟨[], [2], [], [], [], [], 304⟩, r := ⟨[(2, (.d .bool))], [], [], 304⟩, F := flotsamref13_Right_l0 }
noncomputable def flotsamref13_Right_S : List (Nat × Sum) := []
noncomputable def flotsamref13_Right_fl : List (Nat × Func) := []
noncomputable def flotsamref13_Right_es : List AE := [⟨8, 41, 0, 0, flotsamref13_Right_L0⟩]
theorem flotsamref13_Right_den0 : (fun x => denStep TEv (look1 flotsamref13_Right_S) (look1 flotsamref13_Right_fl) (annOf flotsamref13_Right_es) 8 41 Go.Proofs.Tryd.f41.ntmps 0 (cat (bodyOf Go.Proofs.Tryd.f41) [true, true, false, true, false, false]) flotsamref13_Right_L0 x) = flotsamref13_Right_s0 := by kernel_rfl
theorem flotsamref13_Right_den : (fun x => denFun TEv (look1 flotsamref13_Right_S) (look1 flotsamref13_Right_fl) (annOf flotsamref13_Right_es) 8 41 Go.Proofs.Tryd.f41 flotsamref13_Right_sm.a flotsamref13_Right_sm.r x) = flotsamref13_Right_sm.F := by kernel_rfl
theorem flotsamref13_Right_ok0 : AEok Go.Proofs.Tryd.prog TEv (look1 flotsamref13_Right_S) (look1 flotsamref13_Right_fl) (annOf flotsamref13_Right_es) ⟨8, 41, 0, 0, flotsamref13_Right_L0⟩ := aeok_of 9223372036854775808 Go.Proofs.Tryd.func41 (by kernel_rfl) flotsamref13_Right_den0 (by kernel_rfl)
theorem flotsamref13_Right_sem : SemOf Go.Proofs.Tryd.prog 41 flotsamref13_Right_sm :=
  semMk teOk (sl := flotsamref13_Right_S) (all_nil) (fl := flotsamref13_Right_fl) (all_nil) (es := flotsamref13_Right_es) Go.Proofs.Tryd.func41 (by kernel_rfl) rfl (rng_none (by kernel_rfl) (by kernel_rfl)) (all_cons flotsamref13_Right_ok0 (all_nil)) rfl flotsamref13_Right_den

/-! ### flotsam/flotsamref17.Right -/
def flotsamref17_Right_s0r (v5 : Int) (c0 : Heap) (c16 : Marker) : Option (SRes (.cons cI (.cons cHeap (.cons cMarker .nil))) (.cons cHeap (.cons cMarker .nil)) (.cons .bool .nil)) :=
  bif decide (v5 < (c16.2.1.length : Int)) then
    bif decide (0 ≤ v5) then
      bif decide (v5 < (c16.2.1.length : Int)) then
        (flotsamref13_Right (c16.2.1.getD v5.toNat (0, [], ()), ())).bind fun y1 =>
        bif !y1.1 then
          some (.fin (.ret (false, ())))
        else
        some (.next (wi64 (v5 + 1), c0, c16, ()))
      else none
    else none
  else
  some (.fin (.out (c0, c16, ())))
def flotsamref17_Right_s0 (x : Int × Heap × Marker × Unit) : Option (SRes (.cons cI (.cons cHeap (.cons cMarker .nil))) (.cons cHeap (.cons cMarker .nil)) (.cons .bool .nil)) := flotsamref17_Right_s0r x.1 x.2.1 x.2.2.1
def flotsamref17_Right_l0 (x : Int × Heap × Marker × Unit) : Option (LRes (.cons cHeap (.cons cMarker .nil)) (.cons .bool .nil)) := iterL (h := (.cons cI (.cons cHeap (.cons cMarker .nil)))) (o := (.cons cHeap (.cons cMarker .nil))) (r := (.cons .bool .nil)) flotsamref17_Right_s0 9223372036854775808 x
def flotsamref17_Right_r (a0 : Heap) (a1 : Marker) : Option (Bool × Unit) :=
  (flotsamref17_Right_l0 (0, a0, a1, ())).bind fun s2 => match s2 with
  | .out s2 =>
    (flotsamref13_Right (s2.2.1.1, ())).bind fun y3 =>
    bif !y3.1 then
      some (false, ())
    else
    bif decide (s2.2.1.2.2.2.2.2.1 < (-1)) then
      some (false, ())
    else
    bif decide (s2.2.1.2.2.2.2.2.1 > (s2.1.1.length : Int)) then
      some (false, ())
    else
    bif s2.2.1.2.2.2.1 == (-1) then
      some (s2.2.1.2.2.2.2.1 == 0, ())
    else
    (flotsamref08_Field (s2.1, s2.2.1.2.2.2.1, s2.2.1.2.2.2.2.1, ())).bind fun y4 =>
    some (y4.2.1 == 0, ())
  | .ret s2 =>
    some (s2.1, ())
def flotsamref17_Right (x : Heap × Marker × Unit) : Option (Bool × Unit) := flotsamref17_Right_r x.1 x.2.1
noncomputable def flotsamref17_Right_sm : Sum := ⟨(.cons cHeap (.cons cMarker .nil)), (.cons (.d .bool) .nil), flotsamref17_Right⟩
noncomputable def flotsamref17_Right_L0 : LoopSum := { hc := ⟨[], [2, 3, 5], [], [], [0, 16], [], 64⟩, h := ⟨[(2, (.pvar 0 [])), (3, (.pvar 16 [])), (5, (.d cI))], [(0, (.d cHeap)), (16, (.d cMarker))], [], 64⟩, xid := 0, oc := ⟨[], [2, 3], [], [], [0, 16], [], 64⟩, o := ⟨[(2, (.pvar 0 [])), (3, (.pvar 16 []))], [(0, (.d cHeap)), (16, (.d cMarker))], [], 64⟩, rc := ⟨[], [4], [], [], [], [], 64⟩, r := ⟨[(4, (.d .bool))], [], [], 64⟩, F := flotsamref17_Right_l0 }
noncomputable def flotsamref17_Right_S : List (Nat × Sum) := [(40, flotsamref08_Field_sm), (41, flotsamref13_Right_sm)]
noncomputable def flotsamref17_Right_fl : List (Nat × Func) := []
noncomputable def flotsamref17_Right_es : List AE := [⟨8, 19, 0, 0, flotsamref17_Right_L0⟩]
theorem flotsamref17_Right_den0 : (fun x => denStep TEv (look1 flotsamref17_Right_S) (look1 flotsamref17_Right_fl) (annOf flotsamref17_Right_es) 8 19 Go.Proofs.Tryd.f19.ntmps 0 (cat (bodyOf Go.Proofs.Tryd.f19) [true, false, true, false, false]) flotsamref17_Right_L0 x) = flotsamref17_Right_s0 := by kernel_rfl
theorem flotsamref17_Right_den : (fun x => denFun TEv (look1 flotsamref17_Right_S) (look1 flotsamref17_Right_fl) (annOf flotsamref17_Right_es) 8 19 Go.Proofs.Tryd.f19 flotsamref17_Right_sm.a flotsamref17_Right_sm.r x) = flotsamref17_Right_sm.F := by kernel_rfl
theorem flotsamref17_Right_ok0 : AEok Go.Proofs.Tryd.prog TEv (look1 flotsamref17_Right_S) (look1 flotsamref17_Right_fl) (annOf flotsamref17_Right_es) ⟨8, 19, 0, 0, flotsamref17_Right_L0⟩ := aeok_of 9223372036854775808 Go.Proofs.Tryd.func19 (by kernel_rfl) flotsamref17_Right_den0 (by kernel_rfl)
theorem flotsamref17_Right_sem : SemOf Go.Proofs.Tryd.prog 19 flotsamref17_Right_sm :=
  semMk teOk (sl := flotsamref17_Right_S) (all_cons flotsamref08_Field_sem (all_cons flotsamref13_Right_sem all_nil)) (fl := flotsamref17_Right_fl) (all_nil) (es := flotsamref17_Right_es) Go.Proofs.Tryd.func19 (by kernel_rfl) rfl (rng_none (by kernel_rfl) (by kernel_rfl)) (all_cons flotsamref17_Right_ok0 (all_nil)) rfl flotsamref17_Right_den

/-! ### flotsam/flotsamref17.Few -/
def flotsamref17_Few_s0r (v3 : Int) (c0 : Marker) : Option (SRes (.cons cI (.cons cMarker .nil)) (.cons cMarker .nil) (.cons .bool .nil)) :=
  bif decide (v3 < (c0.2.1.length : Int)) then
    bif decide (v3 < 20) then
      bif decide (0 ≤ v3) then
        bif decide (v3 < (c0.2.1.length : Int)) then
          bif decide (((c0.2.1.getD v3.toNat (0, [], ())).2.1.length : Int) > 20) then
            some (.fin (.ret (false, ())))
          else
          some (.next (wi64 (v3 + 1), c0, ()))
        else none
      else none
    else
    some (.fin (.out (c0, ())))
  else
  some (.fin (.out (c0, ())))
def flotsamref17_Few_s0 (x : Int × Marker × Unit) : Option (SRes (.cons cI (.cons cMarker .nil)) (.cons cMarker .nil) (.cons .bool .nil)) := flotsamref17_Few_s0r x.1 x.2.1
def flotsamref17_Few_l0 (x : Int × Marker × Unit) : Option (LRes (.cons cMarker .nil) (.cons .bool .nil)) := iterL (h := (.cons cI (.cons cMarker .nil))) (o := (.cons cMarker .nil)) (r := (.cons .bool .nil)) flotsamref17_Few_s0 9223372036854775808 x
def flotsamref17_Few_r (a0 : Marker) : Option (Bool × Unit) :=
  (flotsamref17_Few_l0 (0, a0, ())).bind fun s1 => match s1 with
  | .out s1 =>
    bif decide ((s1.1.1.2.1.length : Int) ≤ 20) then
      bif decide ((s1.1.2.1.length : Int) ≤ 10) then
        some (decide ((s1.1.2.2.1.length : Int) ≤ 300), ())
      else
      some (false, ())
    else
    some (false, ())
  | .ret s1 =>
    some (s1.1, ())
def flotsamref17_Few (x : Marker × Unit) : Option (Bool × Unit) := flotsamref17_Few_r x.1
noncomputable def flotsamref17_Few_sm : Sum := ⟨(.cons cMarker .nil), (.cons (.d .bool) .nil), flotsamref17_Few⟩
noncomputable def flotsamref17_Few_L0 : LoopSum := { hc := ⟨[], [1, 3], [], [], [0], [], 48⟩, h := ⟨[(1, (.pvar 0 [])), (3, (.d cI))], [(0, (.d cMarker))], [], 48⟩, xid := 0, oc := ⟨[], [1], [], [], [0], [], 48⟩, o := ⟨[(1, (.pvar 0 []))], [(0, (.d cMarker))], [], 48⟩, rc := ⟨[], [2], [], [], [], [], 48⟩, r := ⟨[(2, (.d .bool))], [], [], 48⟩, F := flotsamref17_Few_l0 }
noncomputable def flotsamref17_Few_S : List (Nat × Sum) := []
noncomputable def flotsamref17_Few_fl : List (Nat × Func) := []
noncomputable def flotsamref17_Few_es : List AE := [⟨8, 32, 0, 0, flotsamref17_Few_L0⟩]
theorem flotsamref17_Few_den0 : (fun x => denStep TEv (look1 flotsamref17_Few_S) (look1 flotsamref17_Few_fl) (annOf flotsamref17_Few_es) 8 32 Go.Proofs.Tryd.f32.ntmps 0 (cat (bodyOf Go.Proofs.Tryd.f32) [true, false, true, false, false]) flotsamref17_Few_L0 x) = flotsamref17_Few_s0 := by kernel_rfl
theorem flotsamref17_Few_den : (fun x => denFun TEv (look1 flotsamref17_Few_S) (look1 flotsamref17_Few_fl) (annOf flotsamref17_Few_es) 8 32 Go.Proofs.Tryd.f32 flotsamref17_Few_sm.a flotsamref17_Few_sm.r x) = flotsamref17_Few_sm.F := by kernel_rfl
theorem flotsamref17_Few_ok0 : AEok Go.Proofs.Tryd.prog TEv (look1 flotsamref17_Few_S) (look1 flotsamref17_Few_fl) (annOf flotsamref17_Few_es) ⟨8, 32, 0, 0, flotsamref17_Few_L0⟩ := aeok_of 9223372036854775808 Go.Proofs.Tryd.func32 (by kernel_rfl) flotsamref17_Few_den0 (by kernel_rfl)
theorem flotsamref17_Few_sem : SemOf Go.Proofs.Tryd.prog 32 flotsamref17_Few_sm :=
  semMk teOk (sl := flotsamref17_Few_S) (all_nil) (fl := flotsamref17_Few_fl) (all_nil) (es := flotsamref17_Few_es) Go.Proofs.Tryd.func32 (by kernel_rfl) rfl (rng_none (by kernel_rfl) (by kernel_rfl)) (all_cons flotsamref17_Few_ok0 (all_nil)) rfl flotsamref17_Few_den
end Go.Proofs.YtdiogegolnoeoaaDoor.Den
