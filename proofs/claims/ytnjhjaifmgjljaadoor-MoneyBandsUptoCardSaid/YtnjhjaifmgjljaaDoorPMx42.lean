-- Written by a program of this session's (wip/tools/myprint.py): a function's plain form and its contract.
import Derived.Test.YtnjhjaifmgjljaaDoorPMx0
import Derived.Test.YtnjhjaifmgjljaaDoorPMx41
namespace Go.Proofs.YtnjhjaifmgjljaaDoor.PM
open Go.RowKit Go.Proofs.YtnjhjaifmgjljaaDoorW.PrintWords Go.Proofs.YtnjhjaifmgjljaaDoorW.PrintLast Go.Proofs.YtnjhjaifmgjljaaDoorW.PrintMore
attribute [local go_sem] max2_int min2_int max_two min_two max_three min_three max_four min_four   -- for this text's walks alone
set_option linter.unusedVariables false
set_option linter.unusedSimpArgs false

/-! ### levyref1_rounded: function 71 -/
def levyref1_rounded.j0 : Nat → Bool → Int → Bool → Option (Int)
 | 0, _, _, _ => none
 | k + 1, x1, x9, x11 => if x11 = true then (if x1 = true then (some (wrap64 (-(wrap64 (x9 + 1))))) else (some (wrap64 (x9 + 1)))) else (if x1 = true then (some (wrap64 (-x9))) else (some x9))
def levyref1_rounded.f (k : Nat) (l0 : List Int) (a1 : Bool) (a2 : Int) (a3 : Int) : Option (Int) := (levyref1_divided.f k l0 a2).bind fun bt447 => (if a3 = 1 then (if a1 = true then (levyref1_rounded.j0 k a1 bt447.1 (decide (bt447.2 > 0))) else (levyref1_rounded.j0 k a1 bt447.1 false)) else (if a3 = 2 then (if a1 = true then (levyref1_rounded.j0 k a1 bt447.1 false) else (levyref1_rounded.j0 k a1 bt447.1 (decide (bt447.2 > 0)))) else (if a3 = 4 then (if bt447.2 > (wrap64 (a2 - bt447.2)) then (levyref1_rounded.j0 k a1 bt447.1 true) else (if bt447.2 = (wrap64 (a2 - bt447.2)) then (levyref1_rounded.j0 k a1 bt447.1 (!a1)) else (levyref1_rounded.j0 k a1 bt447.1 false))) else (if a3 = 5 then (if bt447.2 > (wrap64 (a2 - bt447.2)) then (levyref1_rounded.j0 k a1 bt447.1 true) else (if bt447.2 = (wrap64 (a2 - bt447.2)) then (levyref1_rounded.j0 k a1 bt447.1 ((Int.tmod bt447.1 2) == 1)) else (levyref1_rounded.j0 k a1 bt447.1 false))) else (levyref1_rounded.j0 k a1 bt447.1 false)))))
theorem levyref1_rounded.mono_l : ∀ k, (∀ y0 y1 y2, LeO (levyref1_rounded.j0 k y0 y1 y2) (levyref1_rounded.j0 (k + 1) y0 y1 y2))
 | 0 => fun _ _ _ r h => by simp [levyref1_rounded.j0] at h
 | k + 1 => by
  have ih0 := levyref1_rounded.mono_l k
  ·intro y0 y1 y2
   unfold levyref1_rounded.j0
   repeat' first
   | (with_reducible exact ih0 _ _ _)
   | (with_reducible exact levyref1_divided.mono _ _ _)
   | (with_reducible exact LeO.refl _)
   | (with_reducible exact LeO.none _)
   | (with_reducible refine LeO.ite ?_ ?_)
   | (with_reducible refine LeO.bind ?_ (fun _ => ?_))
   | exact ih0 _ _ _
   | exact levyref1_divided.mono _ _ _
   | exact LeO.none _
   | refine LeO.ite ?_ ?_
   | refine LeO.bind ?_ (fun _ => ?_)
theorem levyref1_rounded.mono : ∀ a0 a1 a2 a3 k, LeO (levyref1_rounded.f k a0 a1 a2 a3) (levyref1_rounded.f (k + 1) a0 a1 a2 a3) := by
 intro a0 a1 a2 a3 k
 have ih0 := levyref1_rounded.mono_l k
 unfold levyref1_rounded.f
 repeat' first
   | (with_reducible exact ih0 _ _ _)
   | (with_reducible exact levyref1_divided.mono _ _ _)
   | (with_reducible exact LeO.refl _)
   | (with_reducible exact LeO.none _)
   | (with_reducible refine LeO.ite ?_ ?_)
   | (with_reducible refine LeO.bind ?_ (fun _ => ?_))
   | exact ih0 _ _ _
   | exact levyref1_divided.mono _ _ _
   | exact LeO.none _
   | refine LeO.ite ?_ ?_
   | refine LeO.bind ?_ (fun _ => ?_)
set_option maxHeartbeats 8000000 in
set_option maxRecDepth 100000 in
theorem levyref1_rounded.calls (k : Nat) (A0 : Option Addr) (c0 : Nat) (l0 : List Int) (a1 : Bool) (a2 : Int) (a3 : Int) (r : Int) (w : World) (hr0 : Kd.C (Kd.int .i64) w A0 l0.length l0) (hc0 : l0.length ≤ c0) (h : levyref1_rounded.f k l0 a1 a2 a3 = some r) :
  Calls Tryd.prog 71 #[.slice A0 l0.length c0, .bool a1, .int .i64 a2, .int .i64 a3] w fun e w' => e = .returned (.int .i64 r) ∧ Below w.heap.size w w' := by
 have HR0 := Aside0.mk hr0
 have HC0 := Aside0.mk hc0
 clear hr0 hc0
 have HB := Aside0.mk (Below.refl w.heap.size w)
 have H : ((levyref1_divided.f k l0 a2).bind fun bt447 => (if a3 = 1 then (if a1 = true then (levyref1_rounded.j0 k a1 bt447.1 (decide (bt447.2 > 0))) else (levyref1_rounded.j0 k a1 bt447.1 false)) else (if a3 = 2 then (if a1 = true then (levyref1_rounded.j0 k a1 bt447.1 false) else (levyref1_rounded.j0 k a1 bt447.1 (decide (bt447.2 > 0)))) else (if a3 = 4 then (if bt447.2 > (wrap64 (a2 - bt447.2)) then (levyref1_rounded.j0 k a1 bt447.1 true) else (if bt447.2 = (wrap64 (a2 - bt447.2)) then (levyref1_rounded.j0 k a1 bt447.1 (!a1)) else (levyref1_rounded.j0 k a1 bt447.1 false))) else (if a3 = 5 then (if bt447.2 > (wrap64 (a2 - bt447.2)) then (levyref1_rounded.j0 k a1 bt447.1 true) else (if bt447.2 = (wrap64 (a2 - bt447.2)) then (levyref1_rounded.j0 k a1 bt447.1 ((Int.tmod bt447.1 2) == 1)) else (levyref1_rounded.j0 k a1 bt447.1 false))) else (levyref1_rounded.j0 k a1 bt447.1 false)))))) = some r := h
 clear h
 replace H := Option.bind_eq_some_iff.mp H
 obtain ⟨⟨t447, t448⟩, A50, H⟩ := H
 replace H : (if a3 = 1 then (if a1 = true then (levyref1_rounded.j0 k a1 t447 (decide (t448 > 0))) else (levyref1_rounded.j0 k a1 t447 false)) else (if a3 = 2 then (if a1 = true then (levyref1_rounded.j0 k a1 t447 false) else (levyref1_rounded.j0 k a1 t447 (decide (t448 > 0)))) else (if a3 = 4 then (if t448 > (wrap64 (a2 - t448)) then (levyref1_rounded.j0 k a1 t447 true) else (if t448 = (wrap64 (a2 - t448)) then (levyref1_rounded.j0 k a1 t447 (!a1)) else (levyref1_rounded.j0 k a1 t447 false))) else (if a3 = 5 then (if t448 > (wrap64 (a2 - t448)) then (levyref1_rounded.j0 k a1 t447 true) else (if t448 = (wrap64 (a2 - t448)) then (levyref1_rounded.j0 k a1 t447 ((Int.tmod t447 2) == 1)) else (levyref1_rounded.j0 k a1 t447 false))) else (levyref1_rounded.j0 k a1 t447 false))))) = some r := H
 have A5 := Aside0.mk A50
 clear A50
 have HC6 := Aside0.mk H
 clear H
 go_enter Tryd.func71, Tryd.ntmps71
 go_upto_block 0 with (first | ((with_reducible refine gate_callee (f := 102) rfl ?_); refine goesL_ (some 15) rfl rfl Tryd.func102 (by kernel_rfl) rfl #[.slice A0 l0.length c0, .int .i64 a2] rfl agx ?_; (with_reducible refine (levyref1_divided.calls k _ _ l0 a2 t447 t448 _ ?side1 ?side2 A5.out).mono ?_); (case side1 => repeat (first | exact HR0.out | (with_reducible refine Kd.C_alloc ?_ _) | (with_reducible refine Kd.C_drewN ?_ _) | (with_reducible refine Kd.C_drew ?_))); (case side2 => exact HC0.out); rintro e w7 ⟨rfl, hb⟩; refine ⟨_, rfl, ?_⟩; have n0_ := Aside0.mk (below_step blx hb); clear HB; have HB := n0_; clear n0_; (try clear hb); (try clear hb2); (try clear hk); (try clear hi)))
 (try simp only [Act.put, List.setIfInBounds_toArray, List.set_cons_zero, List.set_cons_succ])
 go_cut [11] (fun v11 wc => ∃ (kq : Nat) (x11_5 : Bool), v11 = .bool x11_5 ∧ Aside0 (levyref1_rounded.j0 kq a1 t447 x11_5 = some r) ∧ Aside0 (kq ≤ k) ∧ Aside0 (Below w.heap.size w wc))
 case first =>
  have H := HC6.out
  clear HC6
  by_cases c8 : a3 = 1
  ·rw [if_pos c8] at H
   have c8b0 : (a3 == 1) = true := beq_iff_eq.mpr c8
   have c8b1 : (a3 != 1) = false := bne_eq_false_iff_eq.mpr c8
   clear c8
   (first | rw [c8b0] | (simp only [i64_w, i32_w]; rw [c8b0]) | skip)
   by_cases c9 : a1 = true
   ·subst c9
    have H1 : (levyref1_rounded.j0 k true t447 (decide (t448 > 0))) = some r := by rw [if_pos rfl] at H; exact H
    clear H
    have H := H1
    clear H1
    have H' := Aside0.mk H
    clear H
    go_wp2
    go_meet
    case rel => exact ⟨_, (decide (t448 > 0)), (by first | rfl | (simp; done) | (simp [*]; done)), H', ⟨by first | omega | exact Nat.le_refl _⟩, ⟨blx⟩⟩
   ·replace c9 := Bool.eq_false_iff.mpr c9
    subst c9
    have H1 : (levyref1_rounded.j0 k false t447 false) = some r := by rw [if_neg (show ¬ (false = true) by decide)] at H; exact H
    clear H
    have H := H1
    clear H1
    have H' := Aside0.mk H
    clear H
    go_wp2
    go_meet
    case rel => exact ⟨_, (false), (by first | rfl | (simp; done) | (simp [*]; done)), H', ⟨by first | omega | exact Nat.le_refl _⟩, ⟨blx⟩⟩
  ·rw [if_neg c8] at H
   have c8b0 : (a3 == 1) = false := beq_eq_false_iff_ne.mpr c8
   have c8b1 : (a3 != 1) = true := bne_iff_ne.mpr c8
   (first | rw [c8b0] | (simp only [i64_w, i32_w]; rw [c8b0]) | skip)
   by_cases c10 : a3 = 2
   ·rw [if_pos c10] at H
    have c10b0 : (a3 == 2) = true := beq_iff_eq.mpr c10
    have c10b1 : (a3 != 2) = false := bne_eq_false_iff_eq.mpr c10
    clear c10
    by_cases c11 : a1 = true
    ·subst c11
     have H1 : (levyref1_rounded.j0 k true t447 false) = some r := by rw [if_pos rfl] at H; exact H
     clear H
     have H := H1
     clear H1
     have H' := Aside0.mk H
     clear H
     go_wp2
     go_meet
     case rel => exact ⟨_, (false), (by first | rfl | (simp; done) | (simp [*]; done)), H', ⟨by first | omega | exact Nat.le_refl _⟩, ⟨blx⟩⟩
    ·replace c11 := Bool.eq_false_iff.mpr c11
     subst c11
     have H1 : (levyref1_rounded.j0 k false t447 (decide (t448 > 0))) = some r := by rw [if_neg (show ¬ (false = true) by decide)] at H; exact H
     clear H
     have H := H1
     clear H1
     have H' := Aside0.mk H
     clear H
     go_wp2
     go_meet
     case rel => exact ⟨_, (decide (t448 > 0)), (by first | rfl | (simp; done) | (simp [*]; done)), H', ⟨by first | omega | exact Nat.le_refl _⟩, ⟨blx⟩⟩
   ·rw [if_neg c10] at H
    have c10b0 : (a3 == 2) = false := beq_eq_false_iff_ne.mpr c10
    have c10b1 : (a3 != 2) = true := bne_iff_ne.mpr c10
    by_cases c12 : a3 = 4
    ·rw [if_pos c12] at H
     have c12b0 : (a3 == 4) = true := beq_iff_eq.mpr c12
     have c12b1 : (a3 != 4) = false := bne_eq_false_iff_eq.mpr c12
     clear c12
     by_cases c13 : t448 > (wrap64 (a2 - t448))
     ·rw [if_pos c13] at H
      have c13b0 : decide ((wrap64 (a2 - t448)) < t448) = true := decide_eq_true c13
      clear c13
      have H' := Aside0.mk H
      clear H
      go_wp2
      go_meet
      case rel => exact ⟨_, (true), (by first | rfl | (simp; done) | (simp [*]; done)), H', ⟨by first | omega | exact Nat.le_refl _⟩, ⟨blx⟩⟩
     ·rw [if_neg c13] at H
      have c13b0 : decide ((wrap64 (a2 - t448)) < t448) = false := decide_eq_false c13
      clear c13
      by_cases c14 : t448 = (wrap64 (a2 - t448))
      ·rw [if_pos c14] at H
       have c14b0 : (t448 == (wrap64 (a2 - t448))) = true := beq_iff_eq.mpr c14
       have c14b1 : (t448 != (wrap64 (a2 - t448))) = false := bne_eq_false_iff_eq.mpr c14
       clear c14
       have H' := Aside0.mk H
       clear H
       go_wp2
       go_meet
       case rel => exact ⟨_, (!a1), (by first | rfl | (simp; done) | (simp [*]; done)), H', ⟨by first | omega | exact Nat.le_refl _⟩, ⟨blx⟩⟩
      ·rw [if_neg c14] at H
       have c14b0 : (t448 == (wrap64 (a2 - t448))) = false := beq_eq_false_iff_ne.mpr c14
       have c14b1 : (t448 != (wrap64 (a2 - t448))) = true := bne_iff_ne.mpr c14
       have H' := Aside0.mk H
       clear H
       go_wp2
       go_meet
       case rel => exact ⟨_, (false), (by first | rfl | (simp; done) | (simp [*]; done)), H', ⟨by first | omega | exact Nat.le_refl _⟩, ⟨blx⟩⟩
    ·rw [if_neg c12] at H
     have c12b0 : (a3 == 4) = false := beq_eq_false_iff_ne.mpr c12
     have c12b1 : (a3 != 4) = true := bne_iff_ne.mpr c12
     by_cases c15 : a3 = 5
     ·rw [if_pos c15] at H
      have c15b0 : (a3 == 5) = true := beq_iff_eq.mpr c15
      have c15b1 : (a3 != 5) = false := bne_eq_false_iff_eq.mpr c15
      clear c15
      by_cases c16 : t448 > (wrap64 (a2 - t448))
      ·rw [if_pos c16] at H
       have c16b0 : decide ((wrap64 (a2 - t448)) < t448) = true := decide_eq_true c16
       clear c16
       have H' := Aside0.mk H
       clear H
       go_wp2
       go_meet
       case rel => exact ⟨_, (true), (by first | rfl | (simp; done) | (simp [*]; done)), H', ⟨by first | omega | exact Nat.le_refl _⟩, ⟨blx⟩⟩
      ·rw [if_neg c16] at H
       have c16b0 : decide ((wrap64 (a2 - t448)) < t448) = false := decide_eq_false c16
       clear c16
       by_cases c17 : t448 = (wrap64 (a2 - t448))
       ·rw [if_pos c17] at H
        have c17b0 : (t448 == (wrap64 (a2 - t448))) = true := beq_iff_eq.mpr c17
        have c17b1 : (t448 != (wrap64 (a2 - t448))) = false := bne_eq_false_iff_eq.mpr c17
        clear c17
        have H' := Aside0.mk H
        clear H
        go_wp2
        go_meet
        case rel => exact ⟨_, (((Int.tmod t447 2) == 1)), (by first | rfl | (simp; done) | (simp [*]; done)), H', ⟨by first | omega | exact Nat.le_refl _⟩, ⟨blx⟩⟩
       ·rw [if_neg c17] at H
        have c17b0 : (t448 == (wrap64 (a2 - t448))) = false := beq_eq_false_iff_ne.mpr c17
        have c17b1 : (t448 != (wrap64 (a2 - t448))) = true := bne_iff_ne.mpr c17
        have H' := Aside0.mk H
        clear H
        go_wp2
        go_meet
        case rel => exact ⟨_, (false), (by first | rfl | (simp; done) | (simp [*]; done)), H', ⟨by first | omega | exact Nat.le_refl _⟩, ⟨blx⟩⟩
     ·rw [if_neg c15] at H
      have c15b0 : (a3 == 5) = false := beq_eq_false_iff_ne.mpr c15
      have c15b1 : (a3 != 5) = true := bne_iff_ne.mpr c15
      have H' := Aside0.mk H
      clear H
      go_wp2
      go_meet
      case rel => exact ⟨_, (false), (by first | rfl | (simp; done) | (simp [*]; done)), H', ⟨by first | omega | exact Nat.le_refl _⟩, ⟨blx⟩⟩
 case rest =>
  clear HC6
  try clear c1
  try clear p2
  try clear p6
  try clear c7
  try clear c8
  try clear c8b0
  try clear c8b1
  try clear c9
  try clear c10
  try clear c10b0
  try clear c10b1
  try clear c11
  try clear c12
  try clear c12b0
  try clear c12b1
  try clear c13
  try clear c13b0
  try clear c14
  try clear c14b0
  try clear c14b1
  try clear c15
  try clear c15b0
  try clear c15b1
  try clear c16
  try clear c16b0
  try clear c17
  try clear c17b0
  try clear c17b1
  obtain ⟨kq, x11_5, rfl, HA, HJ5, HB⟩ := hcut
  cases kq with
  | zero => exact absurd HA.out (by simp [levyref1_rounded.j0])
  | succ kj5 =>
   have H := HA.out
   clear HA
   simp only [levyref1_rounded.j0] at H
   by_cases c18 : x11_5 = true
   ·subst c18
    have H1 : (if a1 = true then (some (wrap64 (-(wrap64 (t447 + 1))))) else (some (wrap64 (t447 + 1)))) = some r := by rw [if_pos rfl] at H; exact H
    clear H
    have H := H1
    clear H1
    by_cases c19 : a1 = true
    ·subst c19
     have H1 : (some (wrap64 (-(wrap64 (t447 + 1))))) = some r := by rw [if_pos rfl] at H; exact H
     clear H
     have H := H1
     clear H1
     obtain rfl := Option.some.inj H
     go_wp2
     go_ret
     exact ⟨by first | rfl | (simp [errW_none, errW_some] <;> rfl) | (simp [*, errW_none, errW_some] <;> rfl), blx⟩
    ·replace c19 := Bool.eq_false_iff.mpr c19
     subst c19
     have H1 : (some (wrap64 (t447 + 1))) = some r := by rw [if_neg (show ¬ (false = true) by decide)] at H; exact H
     clear H
     have H := H1
     clear H1
     obtain rfl := Option.some.inj H
     go_wp2
     go_ret
     exact ⟨by first | rfl | (simp [errW_none, errW_some] <;> rfl) | (simp [*, errW_none, errW_some] <;> rfl), blx⟩
   ·replace c18 := Bool.eq_false_iff.mpr c18
    subst c18
    have H1 : (if a1 = true then (some (wrap64 (-t447))) else (some t447)) = some r := by rw [if_neg (show ¬ (false = true) by decide)] at H; exact H
    clear H
    have H := H1
    clear H1
    by_cases c20 : a1 = true
    ·subst c20
     have H1 : (some (wrap64 (-t447))) = some r := by rw [if_pos rfl] at H; exact H
     clear H
     have H := H1
     clear H1
     obtain rfl := Option.some.inj H
     go_wp2
     go_ret
     exact ⟨by first | rfl | (simp [errW_none, errW_some] <;> rfl) | (simp [*, errW_none, errW_some] <;> rfl), blx⟩
    ·replace c20 := Bool.eq_false_iff.mpr c20
     subst c20
     have H1 : (some t447) = some r := by rw [if_neg (show ¬ (false = true) by decide)] at H; exact H
     clear H
     have H := H1
     clear H1
     obtain rfl := Option.some.inj H
     go_wp2
     go_ret
     exact ⟨by first | rfl | (simp [errW_none, errW_some] <;> rfl) | (simp [*, errW_none, errW_some] <;> rfl), blx⟩

end Go.Proofs.YtnjhjaifmgjljaaDoor.PM
