-- Written by a program of this session's (wip/tools/myprint.py): a function's plain form and its contract.
import Derived.Test.YtnjhjaifmgjljaaDoorPMx0
namespace Go.Proofs.YtnjhjaifmgjljaaDoor.PM
open Go.RowKit Go.Proofs.YtnjhjaifmgjljaaDoorW.PrintWords Go.Proofs.YtnjhjaifmgjljaaDoorW.PrintLast Go.Proofs.YtnjhjaifmgjljaaDoorW.PrintMore
attribute [local go_sem] max2_int min2_int max_two min_two max_three min_three max_four min_four   -- for this text's walks alone
set_option linter.unusedVariables false
set_option linter.unusedSimpArgs false

/-! ### levyref1_alike: function 64 -/
mutual
def levyref1_alike.l0 : Nat → List (S23) → List Int → Bool → Int → Option (Bool)
 | 0, _, _, _, _ => none
 | k + 1, x0, x1, x5, x6 => if x6 < (x1.length : Int) then (if x5 = true then (levyref1_alike.l0 k x0 x1 true (wrap64 (x6 + 1))) else (if 0 < (x0.length : Int) then (if 0 ≤ x6 then (levyref1_alike.l0 k x0 x1 (((rd_T23 x0 0).f0) == (rd x1 x6)) (wrap64 (x6 + 1))) else (none)) else (none))) else (levyref1_alike.l1 k x0 x5 0)
def levyref1_alike.l1 : Nat → List (S23) → Bool → Int → Option (Bool)
 | 0, _, _, _ => none
 | k + 1, x0, x5, x7 => if x7 < (x0.length : Int) then (if x5 = true then (if 0 ≤ x7 then (if 0 < (x0.length : Int) then (levyref1_alike.l1 k x0 (((rd_T23 x0 x7).f0) == ((rd_T23 x0 0).f0)) (wrap64 (x7 + 1))) else (none)) else (none)) else (levyref1_alike.l1 k x0 false (wrap64 (x7 + 1)))) else (some x5)
end
def levyref1_alike.f (k : Nat) (l0 : List (S23)) (l1 : List Int) : Option (Bool) := levyref1_alike.l0 k l0 l1 false 0
theorem levyref1_alike.mono_l : ∀ k, (∀ y0 y1 y2 y3, LeO (levyref1_alike.l0 k y0 y1 y2 y3) (levyref1_alike.l0 (k + 1) y0 y1 y2 y3)) ∧ (∀ y0 y1 y2, LeO (levyref1_alike.l1 k y0 y1 y2) (levyref1_alike.l1 (k + 1) y0 y1 y2))
 | 0 => ⟨fun _ _ _ _ r h => by simp [levyref1_alike.l0] at h, fun _ _ _ r h => by simp [levyref1_alike.l1] at h⟩
 | k + 1 => by
  obtain ⟨ih0, ih1⟩ := levyref1_alike.mono_l k
  refine ⟨?_, ?_⟩
  ·intro y0 y1 y2 y3
   unfold levyref1_alike.l0
   repeat' first
   | (with_reducible exact ih0 _ _ _ _)
   | (with_reducible exact ih1 _ _ _)
   | (with_reducible exact LeO.refl _)
   | (with_reducible exact LeO.none _)
   | (with_reducible refine LeO.ite ?_ ?_)
   | (with_reducible refine LeO.bind ?_ (fun _ => ?_))
   | exact ih0 _ _ _ _
   | exact ih1 _ _ _
   | exact LeO.none _
   | refine LeO.ite ?_ ?_
   | refine LeO.bind ?_ (fun _ => ?_)
  ·intro y0 y1 y2
   unfold levyref1_alike.l1
   repeat' first
   | (with_reducible exact ih0 _ _ _ _)
   | (with_reducible exact ih1 _ _ _)
   | (with_reducible exact LeO.refl _)
   | (with_reducible exact LeO.none _)
   | (with_reducible refine LeO.ite ?_ ?_)
   | (with_reducible refine LeO.bind ?_ (fun _ => ?_))
   | exact ih0 _ _ _ _
   | exact ih1 _ _ _
   | exact LeO.none _
   | refine LeO.ite ?_ ?_
   | refine LeO.bind ?_ (fun _ => ?_)
theorem levyref1_alike.mono : ∀ a0 a1 k, LeO (levyref1_alike.f k a0 a1) (levyref1_alike.f (k + 1) a0 a1) := by
 intro a0 a1 k
 obtain ⟨ih0, ih1⟩ := levyref1_alike.mono_l k
 unfold levyref1_alike.f
 repeat' first
   | (with_reducible exact ih0 _ _ _ _)
   | (with_reducible exact ih1 _ _ _)
   | (with_reducible exact LeO.refl _)
   | (with_reducible exact LeO.none _)
   | (with_reducible refine LeO.ite ?_ ?_)
   | (with_reducible refine LeO.bind ?_ (fun _ => ?_))
   | exact ih0 _ _ _ _
   | exact ih1 _ _ _
   | exact LeO.none _
   | refine LeO.ite ?_ ?_
   | refine LeO.bind ?_ (fun _ => ?_)
set_option maxHeartbeats 8000000 in
set_option maxRecDepth 100000 in
theorem levyref1_alike.calls (k : Nat) (A0 : Option Addr) (c0 : Nat) (l0 : List (S23)) (A1 : Option Addr) (c1 : Nat) (l1 : List Int) (r : Bool) (w : World) (hr0 : Kd.C k23 w A0 l0.length l0) (hc0 : l0.length ≤ c0) (hr1 : Kd.C (Kd.int .i64) w A1 l1.length l1) (hc1 : l1.length ≤ c1) (h : levyref1_alike.f k l0 l1 = some r) :
  Calls Tryd.prog 64 #[.slice A0 l0.length c0, .slice A1 l1.length c1] w fun e w' => e = .returned (.bool r) ∧ Drawn0 w w' := by
 have HR0 := Aside0.mk hr0
 have HC0 := Aside0.mk hc0
 clear hr0 hc0
 have HR1 := Aside0.mk hr1
 have HC1 := Aside0.mk hc1
 clear hr1 hc1
 have H : (levyref1_alike.l0 k l0 l1 false 0) = some r := h
 clear h
 have H' := Aside0.mk H
 clear H
 go_enter Tryd.func64, Tryd.ntmps64
 go_wp2
 repeat (go_quiet (fail); try go_wp2)
 go_loopg [5, 6] k (fun kq v5 v6 w' => ∃ (x5_1 : Bool) (x6_1 : Int), v5 = .bool x5_1 ∧ v6 = .int .i64 x6_1 ∧ Aside0 (levyref1_alike.l0 kq l0 l1 x5_1 x6_1 = some r) ∧ Aside0 (kq ≤ k) ∧ Drawn0 w w')
 case atStart => exact ⟨(false), (0), (by first | rfl | (simp; done) | (simp [*]; done)), (by first | rfl | (simp; done) | (simp [*]; done)), H', ⟨Nat.le_refl _⟩, by repeat (first | exact Drawn0.refl _ | apply Drawn0.step)⟩
 case round =>
  clear H'
  try clear c1
  try clear p2
  obtain ⟨x5_1, x6_1, rfl, rfl, HA, HK1, ⟨m1, rfl⟩⟩ := hrel
  cases gk with
  | zero => exact absurd HA.out (by simp [levyref1_alike.l0])
  | succ k1 =>
   have H := HA.out
   clear HA
   simp only [levyref1_alike.l0] at H
   by_cases c3 : x6_1 < (l1.length : Int)
   ·rw [if_pos c3] at H
    have c3b0 : decide (x6_1 < (l1.length : Int)) = true := decide_eq_true c3
    clear c3
    by_cases c4 : x5_1 = true
    ·subst c4
     have H1 : (levyref1_alike.l0 k1 l0 l1 true (wrap64 (x6_1 + 1))) = some r := by rw [if_pos rfl] at H; exact H
     clear H
     have H := H1
     clear H1
     have H' := Aside0.mk H
     clear H
     go_wp2
     repeat (go_quiet (fail); try go_wp2)
     go_roundg k1
     case measure => have := HK1.out; omega
     case rel => exact ⟨(true), (wrap64 (x6_1 + 1)), (by first | rfl | (simp; done) | (simp [*]; done)), (by first | rfl | (simp; done) | (simp [*]; done)), H', ⟨by have := HK1.out; omega⟩, by repeat (first | exact Drawn0.refl _ | apply Drawn0.step)⟩
    ·replace c4 := Bool.eq_false_iff.mpr c4
     subst c4
     have H1 : (if 0 < (l0.length : Int) then (if 0 ≤ x6_1 then (levyref1_alike.l0 k1 l0 l1 (((rd_T23 l0 0).f0) == (rd l1 x6_1)) (wrap64 (x6_1 + 1))) else (none)) else (none)) = some r := by rw [if_neg (show ¬ (false = true) by decide)] at H; exact H
     clear H
     have H := H1
     clear H1
     by_cases c5 : 0 < (l0.length : Int)
     ·rw [if_pos c5] at H
      have c5b0 : decide (0 < (l0.length : Int)) = true := decide_eq_true c5
      have c5b1 : decide (0 < l0.length) = true := decide_eq_true (by omega)
      clear c5
      by_cases c6 : 0 ≤ x6_1
      ·rw [if_pos c6] at H
       have c6b0 : decide (0 ≤ x6_1) = true := decide_eq_true c6
       clear c6
       have H' := Aside0.mk H
       clear H
       have p193 : 0 ≤ (0 : Int) := (by omega)
       have q193 : 0 < (l0.length : Int) := odx
       obtain ⟨ad193, e193, hx193_0, hx193_1⟩ := at_T23 HR0.out 0 p193 q193
       cases e193
       have qi193 : (0 < l0.length) = True := eq_true (by omega)
       (try rw [show ((0 : Int)).toNat = 0 from rfl] at hx193_0)
       (try rw [show 0 * 2 = 0 from rfl] at hx193_0)
       (try rw [Addr.add_zero'] at hx193_0)
       (try rw [show ((0 : Int)).toNat = 0 from rfl] at hx193_1)
       (try rw [show 0 * 2 = 0 from rfl] at hx193_1)
       (try rw [Addr.add_zero'] at hx193_1)
       replace p193 := eq_true p193
       replace q193 := eq_true q193
       have p194 : 0 ≤ (x6_1 : Int) := odx
       have q194 : x6_1 < (l1.length : Int) := odx
       obtain ⟨ad194, e194, hx194_0⟩ := Kd.at_int HR1.out x6_1 p194 q194
       cases e194
       replace p194 := eq_true p194
       replace q194 := eq_true q194
       go_wp2
       repeat (go_quiet (fail); try go_wp2)
       go_roundg k1
       case measure => have := HK1.out; omega
       case rel => exact ⟨((((rd_T23 l0 0).f0) == (rd l1 x6_1))), (wrap64 (x6_1 + 1)), (by first | rfl | (simp; done) | (simp [*]; done)), (by first | rfl | (simp; done) | (simp [*]; done)), H', ⟨by have := HK1.out; omega⟩, by repeat (first | exact Drawn0.refl _ | apply Drawn0.step)⟩
      ·rw [if_neg c6] at H
       exact absurd H (by simp)
     ·rw [if_neg c5] at H
      exact absurd H (by simp)
   ·rw [if_neg c3] at H
    have c3b0 : decide (x6_1 < (l1.length : Int)) = false := decide_eq_false c3
    clear c3
    have H' := Aside0.mk H
    clear H
    go_wp2
    repeat (go_quiet (fail); try go_wp2)
    go_loopg [5, 7] k1 (fun kq v5 v7 w' => ∃ (x5_2 : Bool) (x7_2 : Int), v5 = .bool x5_2 ∧ v7 = .int .i64 x7_2 ∧ Aside0 (levyref1_alike.l1 kq l0 x5_2 x7_2 = some r) ∧ Aside0 (kq ≤ k1) ∧ Drawn0 w w')
    case atStart => exact ⟨(x5_1), (0), (by first | rfl | (simp; done) | (simp [*]; done)), (by first | rfl | (simp; done) | (simp [*]; done)), H', ⟨Nat.le_refl _⟩, by repeat (first | exact Drawn0.refl _ | apply Drawn0.step)⟩
    case round =>
     clear H'
     try clear c1
     try clear p1
     try clear q1
     try clear hx1
     try clear qi1
     try clear p2
     try clear c3
     try clear c3b0
     try clear c4
     try clear c5
     try clear c5b0
     try clear c5b1
     try clear c6
     try clear c6b0
     try clear p6
     try clear hx193_0
     try clear hx193_1
     try clear hx194_0
     try clear p193
     try clear p194
     try clear p2
     try clear q193
     try clear q194
     obtain ⟨x5_2, x7_2, rfl, rfl, HA, HK2, ⟨m2, rfl⟩⟩ := hrel
     cases gk with
     | zero => exact absurd HA.out (by simp [levyref1_alike.l1])
     | succ k2 =>
      have H := HA.out
      clear HA
      simp only [levyref1_alike.l1] at H
      by_cases c7 : x7_2 < (l0.length : Int)
      ·rw [if_pos c7] at H
       have c7b0 : decide (x7_2 < (l0.length : Int)) = true := decide_eq_true c7
       clear c7
       by_cases c8 : x5_2 = true
       ·subst c8
        have H1 : (if 0 ≤ x7_2 then (if 0 < (l0.length : Int) then (levyref1_alike.l1 k2 l0 (((rd_T23 l0 x7_2).f0) == ((rd_T23 l0 0).f0)) (wrap64 (x7_2 + 1))) else (none)) else (none)) = some r := by rw [if_pos rfl] at H; exact H
        clear H
        have H := H1
        clear H1
        by_cases c9 : 0 ≤ x7_2
        ·rw [if_pos c9] at H
         have c9b0 : decide (0 ≤ x7_2) = true := decide_eq_true c9
         clear c9
         by_cases c10 : 0 < (l0.length : Int)
         ·rw [if_pos c10] at H
          have c10b0 : decide (0 < (l0.length : Int)) = true := decide_eq_true c10
          have c10b1 : decide (0 < l0.length) = true := decide_eq_true (by omega)
          clear c10
          have H' := Aside0.mk H
          clear H
          have p195 : 0 ≤ (x7_2 : Int) := odx
          have q195 : x7_2 < (l0.length : Int) := odx
          obtain ⟨ad195, e195, hx195_0, hx195_1⟩ := at_T23 HR0.out x7_2 p195 q195
          cases e195
          replace p195 := eq_true p195
          replace q195 := eq_true q195
          have p196 : 0 ≤ (0 : Int) := (by omega)
          have q196 : 0 < (l0.length : Int) := odx
          obtain ⟨ad196, e196, hx196_0, hx196_1⟩ := at_T23 HR0.out 0 p196 q196
          obtain rfl : ad195 = ad196 := (by injection e196)
          have qi196 : (0 < l0.length) = True := eq_true (by omega)
          (try rw [show ((0 : Int)).toNat = 0 from rfl] at hx196_0)
          (try rw [show 0 * 2 = 0 from rfl] at hx196_0)
          (try rw [Addr.add_zero'] at hx196_0)
          (try rw [show ((0 : Int)).toNat = 0 from rfl] at hx196_1)
          (try rw [show 0 * 2 = 0 from rfl] at hx196_1)
          (try rw [Addr.add_zero'] at hx196_1)
          replace p196 := eq_true p196
          replace q196 := eq_true q196
          go_wp2
          repeat (go_quiet (fail); try go_wp2)
          go_roundg k2
          case measure => have := HK1.out; have := HK2.out; omega
          case rel => exact ⟨((((rd_T23 l0 x7_2).f0) == ((rd_T23 l0 0).f0))), (wrap64 (x7_2 + 1)), (by first | rfl | (simp; done) | (simp [*]; done)), (by first | rfl | (simp; done) | (simp [*]; done)), H', ⟨by have := HK1.out; have := HK2.out; omega⟩, by repeat (first | exact Drawn0.refl _ | apply Drawn0.step)⟩
         ·rw [if_neg c10] at H
          exact absurd H (by simp)
        ·rw [if_neg c9] at H
         exact absurd H (by simp)
       ·replace c8 := Bool.eq_false_iff.mpr c8
        subst c8
        have H1 : (levyref1_alike.l1 k2 l0 false (wrap64 (x7_2 + 1))) = some r := by rw [if_neg (show ¬ (false = true) by decide)] at H; exact H
        clear H
        have H := H1
        clear H1
        have H' := Aside0.mk H
        clear H
        go_wp2
        repeat (go_quiet (fail); try go_wp2)
        go_roundg k2
        case measure => have := HK1.out; have := HK2.out; omega
        case rel => exact ⟨(false), (wrap64 (x7_2 + 1)), (by first | rfl | (simp; done) | (simp [*]; done)), (by first | rfl | (simp; done) | (simp [*]; done)), H', ⟨by have := HK1.out; have := HK2.out; omega⟩, by repeat (first | exact Drawn0.refl _ | apply Drawn0.step)⟩
      ·rw [if_neg c7] at H
       have c7b0 : decide (x7_2 < (l0.length : Int)) = false := decide_eq_false c7
       clear c7
       obtain rfl := Option.some.inj H
       go_wp2
       repeat (go_quiet (fail); try go_wp2)
       go_ret
       exact ⟨by first | rfl | (simp; done) | (simp [*]; done), by repeat (first | exact Drawn0.refl _ | apply Drawn0.step)⟩

end Go.Proofs.YtnjhjaifmgjljaaDoor.PM
