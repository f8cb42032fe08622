/- Pure laws. -/
import Derived.Test.YtbkjmefhenpmlaaGreatDoorDenP4
import Derived.Test.YtbkjmefhenpmlaaGreatDoorDenP3
/- The pure law WorldNews. -/
namespace Go.Proofs.YtbkjmefhenpmlaaGreatDoor.Den
open Go
set_option linter.unusedVariables false
set_option linter.unusedSimpArgs false
set_option maxRecDepth 100000
theorem awake22 : w22_awake () = some (true, ()) := by kernel_rfl
theorem newH_in {p : Nat} (h1 : 1 ≤ p) (h2 : p ≤ 16) : heap_New ((p : Int), ()) = some (fresh p, 0, ()) := by
 simp only [heap_New, heap_New_r, arena_New, arena_New_r, Bool.cond_decide, ibne, ibeq, if_true]
 rw [if_neg (by omega), if_neg (by omega), wi64_id (by omega) (by omega), if_pos (by omega), if_pos (by omega)]
 simp only [Option.bind_some, Int.toNat_natCast]
 rw [if_neg (by simp), if_pos (by omega), if_pos (by omega)]
 rw [show ((p : Int) * 32).toNat = 32 * p by omega]
 rfl
theorem worldNew_l0 (c : Conf) {n : Nat} (hn : n ≤ 1000) (b : Bool × Unit) (ws : List Int) (ss : List Span) :
  world_New_l0 ((n : Int), 0, (0, 0, 0, 0, 0, ()), (false, ()), 0, (), (0, 0, 0, false, ()), 0, false, 0, (), c, b, 0, (), (0, 0, 0, false, ()), 0, false, 0, (), ws, ss, [], ()) =
   some (.out ((0, 0, 0, 0, 0, ()), (false, ()), 0, (), (0, 0, 0, false, ()), 0, false, 0, (), c, b, 0, (), (0, 0, 0, false, ()), 0, false, 0, (), ws, ss, List.replicate n mnew, ())) := by
 unfold world_New_l0
 refine iterL_run n (fun i => ((n : Int), (i : Int), (0, 0, 0, 0, 0, ()), (false, ()), 0, (), (0, 0, 0, false, ()), 0, false, 0, (), c, b, 0, (), (0, 0, 0, false, ()), 0, false, 0, (), ws, ss, List.replicate i mnew, ())) (fun i hi => ?_) ?_ (by omega) rfl
 ·simp only [world_New_s0, world_New_s0r, Bool.cond_decide, List.length_replicate]
  rw [if_pos (show (i : Int) < (n : Int) by omega), if_pos (show (i + 1) * 120 ≤ 140737488355328 by omega), wi64_id (n := (i : Int) + 1) (by omega) (by omega), List.replicate_succ']
  rfl
 ·simp only [world_New_s0, world_New_s0r, Bool.cond_decide]
  rw [if_neg (show ¬ (n : Int) < (n : Int) by omega)]
theorem new22_l0 (c : Conf) {n : Nat} (hc : c.2.1 = (n : Int)) (hn : n ≤ 1000) (ws : List Int) (ss : List Span) :
  r22_New_l0 (0, c, (0, 0, 0, 0, 0, ()), (false, ()), 0, (), (0, 0, 0, false, ()), 0, false, 0, (), c, (false, ()), 0, (), (0, 0, 0, false, ()), 0, false, 0, (), ws, ss, [], ()) =
   some (.out ((0, 0, 0, 0, 0, ()), (false, ()), 0, (), (0, 0, 0, false, ()), 0, false, 0, (), c, (false, ()), 0, (), (0, 0, 0, false, ()), 0, false, 0, (), ws, ss, List.replicate n mnew, ())) := by
 unfold r22_New_l0
 refine iterL_run n (fun i => ((i : Int), c, (0, 0, 0, 0, 0, ()), (false, ()), 0, (), (0, 0, 0, false, ()), 0, false, 0, (), c, (false, ()), 0, (), (0, 0, 0, false, ()), 0, false, 0, (), ws, ss, List.replicate i mnew, ())) (fun i hi => ?_) ?_ (by omega) rfl
 ·simp only [r22_New_s0, r22_New_s0r, Bool.cond_decide, List.length_replicate, hc]
  rw [if_pos (show (i : Int) < (n : Int) by omega), if_pos (show (i + 1) * 120 ≤ 140737488355328 by omega), wi64_id (n := (i : Int) + 1) (by omega) (by omega), List.replicate_succ']
  rfl
 ·simp only [r22_New_s0, r22_New_s0r, Bool.cond_decide, hc]
  rw [if_neg (show ¬ (n : Int) < (n : Int) by omega)]
theorem worldNew_in {c : Conf} (hc : mayP c) : world_New (c, ()) = some (newW c, 0, ()) := by
 obtain ⟨c1, c2, c3, c4, -⟩ := id hc
 obtain ⟨p, hp⟩ := Int.eq_ofNat_of_zero_le (show 0 ≤ c.1 by omega)
 obtain ⟨n, hn⟩ := Int.eq_ofNat_of_zero_le (show 0 ≤ c.2.1 by omega)
 have hN : heap_New (c.1, ()) = some (fresh p, 0, ()) := by rw [hp]; exact newH_in (by omega) (by omega)
 have hl := worldNew_l0 c (n := n) (by omega) ((fresh p).2.2.1, ()) (fresh p).1 (fresh p).2.1
 rw [← hn] at hl
 have ep : c.1.toNat = p := by omega
 have en : c.2.1.toNat = n := by omega
 simp only [world_New, world_New_r, cycleMay_eq, decide_eq_true hc, Option.bind_some, Bool.not_true, cond_false, hN, hl]
 unfold newW
 rw [ep, en]
theorem worldNew_out {c : Conf} (hc : ¬ mayP c) : world_New (c, ()) = some (((0, 0, 0, 0, 0, ()), ([], [], false, ()), [], ((0, [], ()), [], [], 0, 0, 0, false, ()), 0, false, 0, [], ()), 1, ()) := by
 simp only [world_New, world_New_r, cycleMay_eq, decide_eq_false hc, Option.bind_some, Bool.not_false, cond_true]
theorem new22_eq {c : Conf} (hc : mayP c) : r22_New (c, ()) = some (newW c, ()) := by
 obtain ⟨c1, c2, c3, c4, -⟩ := id hc
 obtain ⟨p, hp⟩ := Int.eq_ofNat_of_zero_le (show 0 ≤ c.1 by omega)
 obtain ⟨n, hn⟩ := Int.eq_ofNat_of_zero_le (show 0 ≤ c.2.1 by omega)
 have hw : wi64 (32 * c.1) = ((32 * p : Nat) : Int) := by rw [wi64_id (by omega) (by omega)]; omega
 have hl := new22_l0 c hn (by omega) (List.replicate (32 * p) (0 : Int)) (List.replicate p ((0, 0, 0, ()) : Span))
 have ep : c.1.toNat = p := by omega
 have en : c.2.1.toNat = n := by omega
 have q1 : (0 : Int) ≤ ((32 * p : Nat) : Int) := by omega
 have q2 : 32 * p * 8 ≤ 140737488355328 := by omega
 have q3 : (0 : Int) ≤ c.1 := by omega
 have q4 : p * 24 ≤ 140737488355328 := by omega
 simp only [r22_New, r22_New_r, hw, ep, beq_self_eq_true, cond_true, Bool.cond_decide, if_pos q1, Int.toNat_natCast, if_pos q2, if_pos q3, if_pos q4, hl, Option.bind_some]
 unfold newW
 rw [ep, en]
 rfl
theorem worldNews_pure : ∀ x, Good (.cons cRep (.cons cWrld .nil)) x → w22_WorldNews x = some (true, ()) := by
 rintro ⟨(c : Conf), (w : WrldT), ⟨⟩⟩ ⟨gc, gw, -⟩
 have gw : Good cWrld w := gw
 obtain ⟨b, eb, hb⟩ := few20_eq gw
 simp only [w22_WorldNews, w22_WorldNews_r, awake22, eb, Option.bind_some, Bool.not_true, cond_false]
 cases b with
 | false => rfl
 | true =>
  obtain ⟨q, -, -⟩ := hb rfl
  simp only [Bool.not_true, cond_false, may20_eq, Option.bind_some]
  by_cases hc : mayP c
  ·have G := new_GX hc
   have S : SL (newW c) := (GI.new hc).sl (by show (0 : Nat) ≤ 1000; omega)
   have hwh := worldWhole_eq G.T.I.gw
   rw [G.whole] at hwh
   have ew : (((newW c).1, ((newW c).2.1.1, (newW c).2.1.2.1, (newW c).2.1.2.2), (newW c).2.2.1, (((newW c).2.2.2.1.1.1, (newW c).2.2.2.1.1.2.1, (newW c).2.2.2.1.1.2.2), (newW c).2.2.2.1.2.1, (newW c).2.2.2.1.2.2.1, (newW c).2.2.2.1.2.2.2), (newW c).2.2.2.2.1, (newW c).2.2.2.2.2.1, (newW c).2.2.2.2.2.2.1, (newW c).2.2.2.2.2.2.2.1, (newW c).2.2.2.2.2.2.2.2) : WrldT) = newW c := rfl
   have b0 : ((0 : Int) != 0) = false := by decide
   simp only [worldNew_in hc, decide_eq_true hc, Option.bind_some, cond_true, b0, cond_false, new22_eq hc, ew, same20_self S, Bool.not_true, hwh, worldWhole_eq q.g, whole22_eq q.g, beq_self_eq_true]
  ·have S : SL ((0, 0, 0, 0, 0, ()), ([], [], false, ()), [], ((0, [], ()), [], [], 0, 0, 0, false, ()), 0, false, 0, [], ()) :=
    ⟨by show (0 : Nat) ≤ 1000; omega, by show (0 : Nat) ≤ 1000; omega, by show (0 : Nat) ≤ 1000; omega, fun m hm => (by cases hm), by show (0 : Nat) ≤ 1000; omega, by show (0 : Nat) ≤ 1000; omega, fun g hg => (by cases hg), by show (0 : Nat) ≤ 1000; omega, by show (0 : Nat) ≤ 1000; omega⟩
   have b0 : ((1 : Int) != 1) = false := by decide
   simp only [worldNew_out hc, decide_eq_false hc, Option.bind_some, cond_false, b0, same20_self S, Bool.not_true, worldWhole_eq q.g, whole22_eq q.g, beq_self_eq_true]
end Go.Proofs.YtbkjmefhenpmlaaGreatDoor.Den
