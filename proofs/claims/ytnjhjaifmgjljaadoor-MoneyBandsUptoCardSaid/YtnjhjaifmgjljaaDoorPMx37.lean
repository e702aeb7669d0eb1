-- Written by a program of this session's (wip/tools/myprint.py): a function's plain form and its contract.
import Derived.Test.YtnjhjaifmgjljaaDoorPMx0
namespace Go.Proofs.YtnjhjaifmgjljaaDoor.PM
open Go.RowKit Go.Proofs.YtnjhjaifmgjljaaDoorW.PrintWords Go.Proofs.YtnjhjaifmgjljaaDoorW.PrintLast Go.Proofs.YtnjhjaifmgjljaaDoorW.PrintMore
attribute [local go_sem] max2_int min2_int max_two min_two max_three min_three max_four min_four   -- for this text's walks alone
set_option linter.unusedVariables false
set_option linter.unusedSimpArgs false

/-! ### money_rounded: function 68 -/
def money_rounded.j0 : Nat → Int → Bool → Bool → Option (Int × Bool)
 | 0, _, _, _ => none
 | k + 1, x0, x3, x12 => if x0 > 4611686018427387904 then (some (0, false)) else (if x12 = true then (if x3 = true then (some (wrap64 (-(wrap64 (IntKind.u64.wrap (x0 + 1)))), true)) else (some (wrap64 (IntKind.u64.wrap (x0 + 1)), true))) else (if x3 = true then (some (wrap64 (-(wrap64 (x0))), true)) else (some (wrap64 (x0), true))))
def money_rounded.f (k : Nat) (a0 : Int) (a1 : Int) (a2 : Int) (a3 : Bool) (a4 : Int) : Option (Int × Bool) := if a1 > 0 then (if a4 = 1 then (money_rounded.j0 k a0 a3 a3) else (if a4 = 2 then (money_rounded.j0 k a0 a3 (!a3)) else (if a4 = 4 then (if a1 > (IntKind.u64.wrap (a2 - a1)) then (money_rounded.j0 k a0 a3 true) else (if a1 = (IntKind.u64.wrap (a2 - a1)) then (money_rounded.j0 k a0 a3 (!a3)) else (money_rounded.j0 k a0 a3 false))) else (if a4 = 5 then (if a1 > (IntKind.u64.wrap (a2 - a1)) then (money_rounded.j0 k a0 a3 true) else (if a1 = (IntKind.u64.wrap (a2 - a1)) then (money_rounded.j0 k a0 a3 ((Int.tmod a0 2) == 1)) else (money_rounded.j0 k a0 a3 false))) else (money_rounded.j0 k a0 a3 false))))) else (money_rounded.j0 k a0 a3 false)
theorem money_rounded.mono_l : ∀ k, (∀ y0 y1 y2, LeO (money_rounded.j0 k y0 y1 y2) (money_rounded.j0 (k + 1) y0 y1 y2))
 | 0 => fun _ _ _ r h => by simp [money_rounded.j0] at h
 | k + 1 => by
  have ih0 := money_rounded.mono_l k
  ·intro y0 y1 y2
   unfold money_rounded.j0
   repeat' first
   | (with_reducible exact ih0 _ _ _)
   | (with_reducible exact LeO.refl _)
   | (with_reducible exact LeO.none _)
   | (with_reducible refine LeO.ite ?_ ?_)
   | (with_reducible refine LeO.bind ?_ (fun _ => ?_))
   | exact ih0 _ _ _
   | exact LeO.none _
   | refine LeO.ite ?_ ?_
   | refine LeO.bind ?_ (fun _ => ?_)
theorem money_rounded.mono : ∀ a0 a1 a2 a3 a4 k, LeO (money_rounded.f k a0 a1 a2 a3 a4) (money_rounded.f (k + 1) a0 a1 a2 a3 a4) := by
 intro a0 a1 a2 a3 a4 k
 have ih0 := money_rounded.mono_l k
 unfold money_rounded.f
 repeat' first
   | (with_reducible exact ih0 _ _ _)
   | (with_reducible exact LeO.refl _)
   | (with_reducible exact LeO.none _)
   | (with_reducible refine LeO.ite ?_ ?_)
   | (with_reducible refine LeO.bind ?_ (fun _ => ?_))
   | exact ih0 _ _ _
   | exact LeO.none _
   | refine LeO.ite ?_ ?_
   | refine LeO.bind ?_ (fun _ => ?_)
set_option maxHeartbeats 8000000 in
set_option maxRecDepth 100000 in
theorem money_rounded.calls (k : Nat) (a0 : Int) (a1 : Int) (a2 : Int) (a3 : Bool) (a4 : Int) (r1 : Int) (r2 : Bool) (w : World) (h : money_rounded.f k a0 a1 a2 a3 a4 = some (r1, r2)) :
  Calls Tryd.prog 68 #[.int .u64 a0, .int .u64 a1, .int .u64 a2, .bool a3, .int .i64 a4] w fun e w' => e = .returned (.tuple #[.int .i64 r1, .bool r2]) ∧ Drawn0 w w' := by
 have H : (if a1 > 0 then (if a4 = 1 then (money_rounded.j0 k a0 a3 a3) else (if a4 = 2 then (money_rounded.j0 k a0 a3 (!a3)) else (if a4 = 4 then (if a1 > (IntKind.u64.wrap (a2 - a1)) then (money_rounded.j0 k a0 a3 true) else (if a1 = (IntKind.u64.wrap (a2 - a1)) then (money_rounded.j0 k a0 a3 (!a3)) else (money_rounded.j0 k a0 a3 false))) else (if a4 = 5 then (if a1 > (IntKind.u64.wrap (a2 - a1)) then (money_rounded.j0 k a0 a3 true) else (if a1 = (IntKind.u64.wrap (a2 - a1)) then (money_rounded.j0 k a0 a3 ((Int.tmod a0 2) == 1)) else (money_rounded.j0 k a0 a3 false))) else (money_rounded.j0 k a0 a3 false))))) else (money_rounded.j0 k a0 a3 false)) = some (r1, r2) := h
 clear h
 have HC6 := Aside0.mk H
 clear H
 go_enter Tryd.func68, Tryd.ntmps68
 go_upto_if 14 with (fail)
 go_cut [12] (fun v12 wc => ∃ (kq : Nat) (x12_5 : Bool), v12 = .bool x12_5 ∧ Aside0 (money_rounded.j0 kq a0 a3 x12_5 = some (r1, r2)) ∧ Aside0 (kq ≤ k) ∧ Drawn0 w wc)
 case first =>
  have H := HC6.out
  clear HC6
  by_cases c7 : a1 > 0
  ·rw [if_pos c7] at H
   have c7b0 : decide (0 < a1) = true := decide_eq_true c7
   clear c7
   (first | rw [c7b0] | (simp only [i64_w, i32_w]; rw [c7b0]) | skip)
   by_cases c8 : a4 = 1
   ·rw [if_pos c8] at H
    have c8b0 : (a4 == 1) = true := beq_iff_eq.mpr c8
    have c8b1 : (a4 != 1) = false := bne_eq_false_iff_eq.mpr c8
    clear c8
    have H' := Aside0.mk H
    clear H
    go_wp2
    go_meet
    case rel => exact ⟨_, (a3), (by first | rfl | (simp; done) | (simp [*]; done)), H', ⟨by first | omega | exact Nat.le_refl _⟩, by repeat (first | exact Drawn0.refl _ | apply Drawn0.step)⟩
   ·rw [if_neg c8] at H
    have c8b0 : (a4 == 1) = false := beq_eq_false_iff_ne.mpr c8
    have c8b1 : (a4 != 1) = true := bne_iff_ne.mpr c8
    by_cases c9 : a4 = 2
    ·rw [if_pos c9] at H
     have c9b0 : (a4 == 2) = true := beq_iff_eq.mpr c9
     have c9b1 : (a4 != 2) = false := bne_eq_false_iff_eq.mpr c9
     clear c9
     have H' := Aside0.mk H
     clear H
     go_wp2
     go_meet
     case rel => exact ⟨_, (!a3), (by first | rfl | (simp; done) | (simp [*]; done)), H', ⟨by first | omega | exact Nat.le_refl _⟩, by repeat (first | exact Drawn0.refl _ | apply Drawn0.step)⟩
    ·rw [if_neg c9] at H
     have c9b0 : (a4 == 2) = false := beq_eq_false_iff_ne.mpr c9
     have c9b1 : (a4 != 2) = true := bne_iff_ne.mpr c9
     by_cases c10 : a4 = 4
     ·rw [if_pos c10] at H
      have c10b0 : (a4 == 4) = true := beq_iff_eq.mpr c10
      have c10b1 : (a4 != 4) = false := bne_eq_false_iff_eq.mpr c10
      clear c10
      by_cases c11 : a1 > (IntKind.u64.wrap (a2 - a1))
      ·rw [if_pos c11] at H
       have c11b0 : decide ((IntKind.u64.wrap (a2 - a1)) < a1) = true := decide_eq_true c11
       clear c11
       have H' := Aside0.mk H
       clear H
       go_wp2
       go_meet
       case rel => exact ⟨_, (true), (by first | rfl | (simp; done) | (simp [*]; done)), H', ⟨by first | omega | exact Nat.le_refl _⟩, by repeat (first | exact Drawn0.refl _ | apply Drawn0.step)⟩
      ·rw [if_neg c11] at H
       have c11b0 : decide ((IntKind.u64.wrap (a2 - a1)) < a1) = false := decide_eq_false c11
       clear c11
       by_cases c12 : a1 = (IntKind.u64.wrap (a2 - a1))
       ·rw [if_pos c12] at H
        have c12b0 : (a1 == (IntKind.u64.wrap (a2 - a1))) = true := beq_iff_eq.mpr c12
        have c12b1 : (a1 != (IntKind.u64.wrap (a2 - a1))) = false := bne_eq_false_iff_eq.mpr c12
        clear c12
        have H' := Aside0.mk H
        clear H
        go_wp2
        go_meet
        case rel => exact ⟨_, (!a3), (by first | rfl | (simp; done) | (simp [*]; done)), H', ⟨by first | omega | exact Nat.le_refl _⟩, by repeat (first | exact Drawn0.refl _ | apply Drawn0.step)⟩
       ·rw [if_neg c12] at H
        have c12b0 : (a1 == (IntKind.u64.wrap (a2 - a1))) = false := beq_eq_false_iff_ne.mpr c12
        have c12b1 : (a1 != (IntKind.u64.wrap (a2 - a1))) = true := bne_iff_ne.mpr c12
        have H' := Aside0.mk H
        clear H
        go_wp2
        go_meet
        case rel => exact ⟨_, (false), (by first | rfl | (simp; done) | (simp [*]; done)), H', ⟨by first | omega | exact Nat.le_refl _⟩, by repeat (first | exact Drawn0.refl _ | apply Drawn0.step)⟩
     ·rw [if_neg c10] at H
      have c10b0 : (a4 == 4) = false := beq_eq_false_iff_ne.mpr c10
      have c10b1 : (a4 != 4) = true := bne_iff_ne.mpr c10
      by_cases c13 : a4 = 5
      ·rw [if_pos c13] at H
       have c13b0 : (a4 == 5) = true := beq_iff_eq.mpr c13
       have c13b1 : (a4 != 5) = false := bne_eq_false_iff_eq.mpr c13
       clear c13
       by_cases c14 : a1 > (IntKind.u64.wrap (a2 - a1))
       ·rw [if_pos c14] at H
        have c14b0 : decide ((IntKind.u64.wrap (a2 - a1)) < a1) = true := decide_eq_true c14
        clear c14
        have H' := Aside0.mk H
        clear H
        go_wp2
        go_meet
        case rel => exact ⟨_, (true), (by first | rfl | (simp; done) | (simp [*]; done)), H', ⟨by first | omega | exact Nat.le_refl _⟩, by repeat (first | exact Drawn0.refl _ | apply Drawn0.step)⟩
       ·rw [if_neg c14] at H
        have c14b0 : decide ((IntKind.u64.wrap (a2 - a1)) < a1) = false := decide_eq_false c14
        clear c14
        by_cases c15 : a1 = (IntKind.u64.wrap (a2 - a1))
        ·rw [if_pos c15] at H
         have c15b0 : (a1 == (IntKind.u64.wrap (a2 - a1))) = true := beq_iff_eq.mpr c15
         have c15b1 : (a1 != (IntKind.u64.wrap (a2 - a1))) = false := bne_eq_false_iff_eq.mpr c15
         clear c15
         have H' := Aside0.mk H
         clear H
         go_wp2
         go_meet
         case rel => exact ⟨_, (((Int.tmod a0 2) == 1)), (by first | rfl | (simp; done) | (simp [*]; done)), H', ⟨by first | omega | exact Nat.le_refl _⟩, by repeat (first | exact Drawn0.refl _ | apply Drawn0.step)⟩
        ·rw [if_neg c15] at H
         have c15b0 : (a1 == (IntKind.u64.wrap (a2 - a1))) = false := beq_eq_false_iff_ne.mpr c15
         have c15b1 : (a1 != (IntKind.u64.wrap (a2 - a1))) = true := bne_iff_ne.mpr c15
         have H' := Aside0.mk H
         clear H
         go_wp2
         go_meet
         case rel => exact ⟨_, (false), (by first | rfl | (simp; done) | (simp [*]; done)), H', ⟨by first | omega | exact Nat.le_refl _⟩, by repeat (first | exact Drawn0.refl _ | apply Drawn0.step)⟩
      ·rw [if_neg c13] at H
       have c13b0 : (a4 == 5) = false := beq_eq_false_iff_ne.mpr c13
       have c13b1 : (a4 != 5) = true := bne_iff_ne.mpr c13
       have H' := Aside0.mk H
       clear H
       go_wp2
       go_meet
       case rel => exact ⟨_, (false), (by first | rfl | (simp; done) | (simp [*]; done)), H', ⟨by first | omega | exact Nat.le_refl _⟩, by repeat (first | exact Drawn0.refl _ | apply Drawn0.step)⟩
  ·rw [if_neg c7] at H
   have c7b0 : decide (0 < a1) = false := decide_eq_false c7
   clear c7
   (first | rw [c7b0] | (simp only [i64_w, i32_w]; rw [c7b0]) | skip)
   have H' := Aside0.mk H
   clear H
   go_wp2
   go_meet
   case rel => exact ⟨_, (false), (by first | rfl | (simp; done) | (simp [*]; done)), H', ⟨by first | omega | exact Nat.le_refl _⟩, by repeat (first | exact Drawn0.refl _ | apply Drawn0.step)⟩
 case rest =>
  clear HC6
  try clear c1
  try clear p2
  try clear c6
  try clear c7
  try clear c7b0
  try clear c8
  try clear c8b0
  try clear c8b1
  try clear c9
  try clear c9b0
  try clear c9b1
  try clear c10
  try clear c10b0
  try clear c10b1
  try clear c11
  try clear c11b0
  try clear c12
  try clear c12b0
  try clear c12b1
  try clear c13
  try clear c13b0
  try clear c13b1
  try clear c14
  try clear c14b0
  try clear c15
  try clear c15b0
  try clear c15b1
  obtain ⟨kq, x12_5, rfl, HA, HJ5, ⟨mc5, rfl⟩⟩ := hcut
  cases kq with
  | zero => exact absurd HA.out (by simp [money_rounded.j0])
  | succ kj5 =>
   have H := HA.out
   clear HA
   simp only [money_rounded.j0] at H
   by_cases c16 : a0 > 4611686018427387904
   ·rw [if_pos c16] at H
    have c16b0 : decide (4611686018427387904 < a0) = true := decide_eq_true c16
    clear c16
    simp only [Option.some.injEq, Prod.mk.injEq] at H
    obtain ⟨rfl, rfl⟩ := H
    go_wp2
    go_ret2
    exact ⟨by first | rfl | (simp; done) | (simp [*]; done), by repeat (first | exact Drawn0.refl _ | apply Drawn0.step)⟩
   ·rw [if_neg c16] at H
    have c16b0 : decide (4611686018427387904 < a0) = false := decide_eq_false c16
    clear c16
    by_cases c17 : x12_5 = true
    ·subst c17
     have H1 : (if a3 = true then (some (wrap64 (-(wrap64 (IntKind.u64.wrap (a0 + 1)))), true)) else (some (wrap64 (IntKind.u64.wrap (a0 + 1)), true))) = some (r1, r2) := by rw [if_pos rfl] at H; exact H
     clear H
     have H := H1
     clear H1
     by_cases c18 : a3 = true
     ·subst c18
      have H1 : (some (wrap64 (-(wrap64 (IntKind.u64.wrap (a0 + 1)))), true)) = some (r1, r2) := by rw [if_pos rfl] at H; exact H
      clear H
      have H := H1
      clear H1
      simp only [Option.some.injEq, Prod.mk.injEq] at H
      obtain ⟨rfl, rfl⟩ := H
      go_wp2
      go_ret2
      exact ⟨by first | rfl | (simp; done) | (simp [*]; done), by repeat (first | exact Drawn0.refl _ | apply Drawn0.step)⟩
     ·replace c18 := Bool.eq_false_iff.mpr c18
      subst c18
      have H1 : (some (wrap64 (IntKind.u64.wrap (a0 + 1)), true)) = some (r1, r2) := by rw [if_neg (show ¬ (false = true) by decide)] at H; exact H
      clear H
      have H := H1
      clear H1
      simp only [Option.some.injEq, Prod.mk.injEq] at H
      obtain ⟨rfl, rfl⟩ := H
      go_wp2
      go_ret2
      exact ⟨by first | rfl | (simp; done) | (simp [*]; done), by repeat (first | exact Drawn0.refl _ | apply Drawn0.step)⟩
    ·replace c17 := Bool.eq_false_iff.mpr c17
     subst c17
     have H1 : (if a3 = true then (some (wrap64 (-(wrap64 (a0))), true)) else (some (wrap64 (a0), true))) = some (r1, r2) := by rw [if_neg (show ¬ (false = true) by decide)] at H; exact H
     clear H
     have H := H1
     clear H1
     by_cases c19 : a3 = true
     ·subst c19
      have H1 : (some (wrap64 (-(wrap64 (a0))), true)) = some (r1, r2) := by rw [if_pos rfl] at H; exact H
      clear H
      have H := H1
      clear H1
      simp only [Option.some.injEq, Prod.mk.injEq] at H
      obtain ⟨rfl, rfl⟩ := H
      go_wp2
      go_ret2
      exact ⟨by first | rfl | (simp; done) | (simp [*]; done), by repeat (first | exact Drawn0.refl _ | apply Drawn0.step)⟩
     ·replace c19 := Bool.eq_false_iff.mpr c19
      subst c19
      have H1 : (some (wrap64 (a0), true)) = some (r1, r2) := by rw [if_neg (show ¬ (false = true) by decide)] at H; exact H
      clear H
      have H := H1
      clear H1
      simp only [Option.some.injEq, Prod.mk.injEq] at H
      obtain ⟨rfl, rfl⟩ := H
      go_wp2
      go_ret2
      exact ⟨by first | rfl | (simp; done) | (simp [*]; done), by repeat (first | exact Drawn0.refl _ | apply Drawn0.step)⟩

end Go.Proofs.YtnjhjaifmgjljaaDoor.PM
