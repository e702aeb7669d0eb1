-- Part 4 of the texts of the claim CA (wrote by programs: words of the kit's print.sh, printed functions; and my own texts; joined by wip/tools/pack.py).
import Derived.Test.YtfhgomcfpmbhnaaCA3

section
namespace Go.Proofs.Ytfhgomcfpmbhnaa.PS
open Go.RowKit Go.Proofs.YtfhgomcfpmbhnaaW.PrintWords Go.Proofs.YtfhgomcfpmbhnaaW.PrintLast Go.Proofs.YtfhgomcfpmbhnaaW.PrintMore
attribute [local go_sem] frun_add frun_sub frun_mul frun_quo frun_neg frun_of frun_same frun_store frun_bits frun_from
attribute [local go_sem] max2_int min2_int max_two min_two max_three min_three max_four min_four
set_option linter.unusedVariables false
set_option linter.unusedSimpArgs false
mutual
def levyref17_At.j0 : Nat → List (S38) → Int → Bool → Option (Int × Int)
 | 0, _, _, _ => none
 | k + 1, x0, x1, x42 => if x42 = true then (some (0, 175)) else (levyref17_At.l0 k x0 x1 0)
def levyref17_At.l0 : Nat → List (S38) → Int → Int → Option (Int × Int)
 | 0, _, _, _ => none
 | k + 1, x0, x1, x7 => if 0 ≤ x7 then (if x7 < (x0.length : Int) then (if ((rd_T38 x0 x7).f0) < x1 then (levyref17_At.l0 k x0 x1 (wrap64 (x7 + 1))) else (if ((rd_T38 x0 x7).f0) = x1 then (some ((rd_T38 x0 x7).f1, 0)) else (if 0 ≤ (wrap64 (x7 - 1)) then (if (wrap64 (x7 - 1)) < (x0.length : Int) then ((levyref17_Sub.f k ((rd_T38 x0 x7).f1) ((rd_T38 x0 (wrap64 (x7 - 1))).f1)).bind fun t156 => ((levyref17_Whole.f (wrap64 (x1 - ((rd_T38 x0 (wrap64 (x7 - 1))).f0)))).bind fun t157 => ((levyref17_Whole.f (wrap64 (((rd_T38 x0 x7).f0) - ((rd_T38 x0 (wrap64 (x7 - 1))).f0)))).bind fun t158 => ((levyref17_Div.f k t157 t158).bind fun t159 => ((levyref17_Finite.f t156).bind fun t160 => (if t160 = true then ((levyref17_Mul.f t156 t159).bind fun t161 => ((levyref17_Add.f k ((rd_T38 x0 (wrap64 (x7 - 1))).f1) t161).bind fun t162 => (some (t162, 0)))) else (some (t156, 0)))))))) else (none)) else (none)))) else (none)) else (none)
end
def levyref17_At.f (k : Nat) (l0 : List (S38)) (a1 : Int) : Option (Int × Int) := (levyref17_Ordered.f k l0).bind fun t146 => (if t146 = true then (if (l0.length : Int) = 0 then (levyref17_At.j0 k l0 a1 true) else (if 0 < (l0.length : Int) then (if a1 < ((rd_T38 l0 0).f0) then (levyref17_At.j0 k l0 a1 true) else (if 0 ≤ (wrap64 ((l0.length : Int) - 1)) then (if (wrap64 ((l0.length : Int) - 1)) < (l0.length : Int) then (levyref17_At.j0 k l0 a1 (decide (a1 > ((rd_T38 l0 (wrap64 ((l0.length : Int) - 1))).f0)))) else (none)) else (none))) else (none))) else (some (0, 172)))
theorem levyref17_At.mono_l : ∀ k, (∀ y0 y1 y2, LeO (levyref17_At.j0 k y0 y1 y2) (levyref17_At.j0 (k + 1) y0 y1 y2)) ∧ (∀ y0 y1 y2, LeO (levyref17_At.l0 k y0 y1 y2) (levyref17_At.l0 (k + 1) y0 y1 y2))
 | 0 => ⟨fun _ _ _ r h => by simp [levyref17_At.j0] at h, fun _ _ _ r h => by simp [levyref17_At.l0] at h⟩
 | k + 1 => by
  obtain ⟨ih0, ih1⟩ := levyref17_At.mono_l k
  refine ⟨?_, ?_⟩
  ·intro y0 y1 y2
   unfold levyref17_At.j0
   repeat' first
   | (with_reducible exact ih0 _ _ _)
   | (with_reducible exact ih1 _ _ _)
   | (with_reducible exact levyref17_Add.mono _ _ _)
   | (with_reducible exact levyref17_Div.mono _ _ _)
   | (with_reducible exact levyref17_Ordered.mono _ _)
   | (with_reducible exact levyref17_Sub.mono _ _ _)
   | (with_reducible exact LeO.refl _)
   | (with_reducible exact LeO.none _)
   | (with_reducible refine LeO.ite ?_ ?_)
   | (with_reducible refine LeO.bind ?_ (fun _ => ?_))
   | exact ih0 _ _ _
   | exact ih1 _ _ _
   | exact levyref17_Add.mono _ _ _
   | exact levyref17_Div.mono _ _ _
   | exact levyref17_Ordered.mono _ _
   | exact levyref17_Sub.mono _ _ _
   | exact LeO.none _
   | refine LeO.ite ?_ ?_
   | refine LeO.bind ?_ (fun _ => ?_)
  ·intro y0 y1 y2
   unfold levyref17_At.l0
   repeat' first
   | (with_reducible exact ih0 _ _ _)
   | (with_reducible exact ih1 _ _ _)
   | (with_reducible exact levyref17_Add.mono _ _ _)
   | (with_reducible exact levyref17_Div.mono _ _ _)
   | (with_reducible exact levyref17_Ordered.mono _ _)
   | (with_reducible exact levyref17_Sub.mono _ _ _)
   | (with_reducible exact LeO.refl _)
   | (with_reducible exact LeO.none _)
   | (with_reducible refine LeO.ite ?_ ?_)
   | (with_reducible refine LeO.bind ?_ (fun _ => ?_))
   | exact ih0 _ _ _
   | exact ih1 _ _ _
   | exact levyref17_Add.mono _ _ _
   | exact levyref17_Div.mono _ _ _
   | exact levyref17_Ordered.mono _ _
   | exact levyref17_Sub.mono _ _ _
   | exact LeO.none _
   | refine LeO.ite ?_ ?_
   | refine LeO.bind ?_ (fun _ => ?_)
theorem levyref17_At.mono : ∀ a0 a1 k, LeO (levyref17_At.f k a0 a1) (levyref17_At.f (k + 1) a0 a1) := by
 intro a0 a1 k
 obtain ⟨ih0, ih1⟩ := levyref17_At.mono_l k
 unfold levyref17_At.f
 repeat' first
   | (with_reducible exact ih0 _ _ _)
   | (with_reducible exact ih1 _ _ _)
   | (with_reducible exact levyref17_Add.mono _ _ _)
   | (with_reducible exact levyref17_Div.mono _ _ _)
   | (with_reducible exact levyref17_Ordered.mono _ _)
   | (with_reducible exact levyref17_Sub.mono _ _ _)
   | (with_reducible exact LeO.refl _)
   | (with_reducible exact LeO.none _)
   | (with_reducible refine LeO.ite ?_ ?_)
   | (with_reducible refine LeO.bind ?_ (fun _ => ?_))
   | exact ih0 _ _ _
   | exact ih1 _ _ _
   | exact levyref17_Add.mono _ _ _
   | exact levyref17_Div.mono _ _ _
   | exact levyref17_Ordered.mono _ _
   | exact levyref17_Sub.mono _ _ _
   | exact LeO.none _
   | refine LeO.ite ?_ ?_
   | refine LeO.bind ?_ (fun _ => ?_)
def levyref17_At.T11 : Bool × List (List Nat × List Nat) := (true, [([], []), ([], []), ([1], [1]), ([0, 2], [0, 2]), ([3], [3]), ([], []), ([], []), ([5, 6], [5, 6]), ([7], [7]), ([], []), ([], []), ([9, 4, 0, 1, 2, 3, 4, 9, 10], [4, 9]), ([10, 8, 11, 0, 1, 2, 3, 4, 5, 6, 7, 8, 9, 10, 11], [8, 10])])
def levyref17_At.B11 : List Nat := [0, 0, 2, 7, 15, 0, 0, 96, 224, 0, 0, 1567, 4095]
theorem levyref17_At.tab11 : rtab .any (opsOf Try.f37 11) = levyref17_At.T11 := by kernel_rfl
theorem levyref17_At.bits11 : waitsOk levyref17_At.T11.2 levyref17_At.B11 = true := by kernel_rfl
set_option maxHeartbeats 8000000 in
set_option maxRecDepth 100000 in
theorem levyref17_At.calls (k : Nat) (A0 : Option Addr) (c0 : Nat) (l0 : List (S38)) (a1 : Int) (r1 : Int) (r2 : Int) (w : World) (hr0 : Kd.C k38 w A0 l0.length l0) (hc0 : l0.length ≤ c0) (h : levyref17_At.f k l0 a1 = some (r1, r2)) :
  Calls Try.prog 37 #[.slice A0 l0.length c0, .int .i64 a1] w fun e w' => e = .returned (.tuple #[.int .u32 r1, .int .i64 r2]) ∧ Below w.heap.size w w' := by
 have hu38 := Try.underlying38
 have HR0 := Aside0.mk hr0
 have HC0 := Aside0.mk hc0
 clear hr0 hc0
 have HB := Aside0.mk (Below.refl w.heap.size w)
 have H : ((levyref17_Ordered.f k l0).bind fun t146 => (if t146 = true then (if (l0.length : Int) = 0 then (levyref17_At.j0 k l0 a1 true) else (if 0 < (l0.length : Int) then (if a1 < ((rd_T38 l0 0).f0) then (levyref17_At.j0 k l0 a1 true) else (if 0 ≤ (wrap64 ((l0.length : Int) - 1)) then (if (wrap64 ((l0.length : Int) - 1)) < (l0.length : Int) then (levyref17_At.j0 k l0 a1 (decide (a1 > ((rd_T38 l0 (wrap64 ((l0.length : Int) - 1))).f0)))) else (none)) else (none))) else (none))) else (some (0, 172)))) = some (r1, r2) := h
 clear h
 replace H := Option.bind_eq_some_iff.mp H
 obtain ⟨t146, A30, H⟩ := H
 replace H : (if t146 = true then (if (l0.length : Int) = 0 then (levyref17_At.j0 k l0 a1 true) else (if 0 < (l0.length : Int) then (if a1 < ((rd_T38 l0 0).f0) then (levyref17_At.j0 k l0 a1 true) else (if 0 ≤ (wrap64 ((l0.length : Int) - 1)) then (if (wrap64 ((l0.length : Int) - 1)) < (l0.length : Int) then (levyref17_At.j0 k l0 a1 (decide (a1 > ((rd_T38 l0 (wrap64 ((l0.length : Int) - 1))).f0)))) else (none)) else (none))) else (none))) else (some (0, 172))) = some (r1, r2) := H
 have A3 := Aside0.mk A30
 clear A30
 by_cases c4 : t146 = true
 ·subst c4
  have H1 : (if (l0.length : Int) = 0 then (levyref17_At.j0 k l0 a1 true) else (if 0 < (l0.length : Int) then (if a1 < ((rd_T38 l0 0).f0) then (levyref17_At.j0 k l0 a1 true) else (if 0 ≤ (wrap64 ((l0.length : Int) - 1)) then (if (wrap64 ((l0.length : Int) - 1)) < (l0.length : Int) then (levyref17_At.j0 k l0 a1 (decide (a1 > ((rd_T38 l0 (wrap64 ((l0.length : Int) - 1))).f0)))) else (none)) else (none))) else (none))) = some (r1, r2) := by rw [if_pos rfl] at H; exact H
  clear H
  have H := H1
  clear H1
  have HC5 := Aside0.mk H
  clear H
  go_enter Try.func37, Try.ntmps37
  go_upto_region 4 with (first | ((with_reducible refine gate_callee (f := 55) rfl ?_); refine goesL_ (some 18) rfl rfl Try.func55 (by kernel_rfl) rfl #[.slice A0 l0.length c0] rfl agx ?_; (with_reducible refine (levyref17_Ordered.calls k _ _ l0 true _ ?side1 ?side2 A3.out).mono ?_); (case side1 => repeat (first | exact HR0.out | (with_reducible refine Kd.C_alloc ?_ _) | (with_reducible refine Kd.C_drewN ?_ _) | (with_reducible refine Kd.C_drew ?_))); (case side2 => exact HC0.out); rintro e w' ⟨rfl, ⟨nd, rfl⟩⟩; refine ⟨_, rfl, ?_⟩))
  (try simp only [Act.put, List.setIfInBounds_toArray, List.set_cons_zero, List.set_cons_succ])
  go_cut [42] (fun v42 wc => ∃ (kq : Nat) (x42_4 : Bool), v42 = .bool x42_4 ∧ Aside0 (levyref17_At.j0 kq l0 a1 x42_4 = some (r1, r2)) ∧ Aside0 (kq ≤ k) ∧ Aside0 (Below w.heap.size w wc))
  case first =>
   have H := HC5.out
   clear HC5
   by_cases c6 : (l0.length : Int) = 0
   ·rw [if_pos c6] at H
    have c6b0 : ((l0.length : Int) == 0) = true := beq_iff_eq.mpr c6
    have c6b1 : ((l0.length : Int) != 0) = false := bne_eq_false_iff_eq.mpr c6
    clear c6
    (first | rw [c6b0] | (simp only [i64_w, i32_w]; rw [c6b0]) | skip)
    have H' := Aside0.mk H
    clear H
    go_wp2
    go_meet
    case rel => exact ⟨_, (true), (by first | rfl | (simp; done) | (simp [*]; done)), H', ⟨by first | omega | exact Nat.le_refl _⟩, ⟨blx⟩⟩
   ·rw [if_neg c6] at H
    have c6b0 : ((l0.length : Int) == 0) = false := beq_eq_false_iff_ne.mpr c6
    have c6b1 : ((l0.length : Int) != 0) = true := bne_iff_ne.mpr c6
    have c6b2 : ¬ (l0 = []) := fun h_ => c6 (by rw [h_]; rfl)
    (first | rw [c6b0] | (simp only [i64_w, i32_w]; rw [c6b0]) | skip)
    by_cases c7 : 0 < (l0.length : Int)
    ·rw [if_pos c7] at H
     have c7b0 : decide (0 < (l0.length : Int)) = true := decide_eq_true c7
     have c7b1 : decide (0 < l0.length) = true := decide_eq_true (by omega)
     clear c7
     by_cases c8 : a1 < ((rd_T38 l0 0).f0)
     ·rw [if_pos c8] at H
      have c8b0 : decide (a1 < ((rd_T38 l0 0).f0)) = true := decide_eq_true c8
      clear c8
      have H' := Aside0.mk H
      clear H
      have p147 : 0 ≤ (0 : Int) := (by omega)
      have q147 : 0 < (l0.length : Int) := odx
      obtain ⟨ad147, e147, hx147_0, hx147_1⟩ := at_T38 HR0.out 0 p147 q147
      cases e147
      have qi147 : (0 < l0.length) = True := eq_true (by omega)
      (try rw [show ((0 : Int)).toNat = 0 from rfl] at hx147_0)
      (try rw [show 0 * 2 = 0 from rfl] at hx147_0)
      (try rw [Addr.add_zero'] at hx147_0)
      (try rw [show ((0 : Int)).toNat = 0 from rfl] at hx147_1)
      (try rw [show 0 * 2 = 0 from rfl] at hx147_1)
      (try rw [Addr.add_zero'] at hx147_1)
      replace hx147_0 := (HB.out.cell (World.block_lt_of_cell? w _ hx147_0)).trans hx147_0
      replace hx147_1 := (HB.out.cell (World.block_lt_of_cell? w _ hx147_1)).trans hx147_1
      replace p147 := eq_true p147
      replace q147 := eq_true q147
      go_wp2
      go_meet
      case rel => exact ⟨_, (true), (by first | rfl | (simp; done) | (simp [*]; done)), H', ⟨by first | omega | exact Nat.le_refl _⟩, ⟨blx⟩⟩
     ·rw [if_neg c8] at H
      have c8b0 : decide (a1 < ((rd_T38 l0 0).f0)) = false := decide_eq_false c8
      clear c8
      obtain ⟨ji9, hji9⟩ : ∃ j_ : Int, (wrap64 ((l0.length : Int) - 1)) = j_ := ⟨_, rfl⟩
      replace H : (if 0 ≤ (ji9) then (if (ji9) < (l0.length : Int) then (levyref17_At.j0 k l0 a1 (decide (a1 > ((rd_T38 l0 (ji9)).f0)))) else (none)) else (none)) = some (r1, r2) := by first | (rw [hji9] at H; exact H) | (simp only [hji9] at H ⊢; exact H)
      have hji9w : (IntKind.i64.wrap ((l0.length : Int) - 1)) = ji9 := (i64_w _).trans hji9
      by_cases c10 : 0 ≤ (ji9)
      ·rw [if_pos c10] at H
       have c10b0 : decide (0 ≤ (ji9)) = true := decide_eq_true c10
       clear c10
       by_cases c11 : (ji9) < (l0.length : Int)
       ·rw [if_pos c11] at H
        have c11b0 : decide ((ji9) < (l0.length : Int)) = true := decide_eq_true c11
        clear c11
        have H' := Aside0.mk H
        clear H
        have p147 : 0 ≤ (0 : Int) := (by omega)
        have q147 : 0 < (l0.length : Int) := odx
        obtain ⟨ad147, e147, hx147_0, hx147_1⟩ := at_T38 HR0.out 0 p147 q147
        cases e147
        have qi147 : (0 < l0.length) = True := eq_true (by omega)
        (try rw [show ((0 : Int)).toNat = 0 from rfl] at hx147_0)
        (try rw [show 0 * 2 = 0 from rfl] at hx147_0)
        (try rw [Addr.add_zero'] at hx147_0)
        (try rw [show ((0 : Int)).toNat = 0 from rfl] at hx147_1)
        (try rw [show 0 * 2 = 0 from rfl] at hx147_1)
        (try rw [Addr.add_zero'] at hx147_1)
        replace hx147_0 := (HB.out.cell (World.block_lt_of_cell? w _ hx147_0)).trans hx147_0
        replace hx147_1 := (HB.out.cell (World.block_lt_of_cell? w _ hx147_1)).trans hx147_1
        replace p147 := eq_true p147
        replace q147 := eq_true q147
        have p148 : 0 ≤ ((ji9) : Int) := odx
        have q148 : (ji9) < (l0.length : Int) := odx
        obtain ⟨ad148, e148, hx148_0, hx148_1⟩ := at_T38 HR0.out (ji9) p148 q148
        obtain rfl : ad147 = ad148 := (by injection e148)
        replace hx148_0 := (HB.out.cell (World.block_lt_of_cell? w _ hx148_0)).trans hx148_0
        replace hx148_1 := (HB.out.cell (World.block_lt_of_cell? w _ hx148_1)).trans hx148_1
        replace p148 := eq_true p148
        replace q148 := eq_true q148
        go_wp2
        go_meet
        case rel => exact ⟨_, (decide (a1 > ((rd_T38 l0 (ji9)).f0))), (by first | rfl | (simp; done) | (simp only [← hji9] <;> (first | rfl | simp)) | (simp [*]; done)), H', ⟨by first | omega | exact Nat.le_refl _⟩, ⟨blx⟩⟩
       ·rw [if_neg c11] at H
        exact absurd H (by simp)
      ·rw [if_neg c10] at H
       exact absurd H (by simp)
    ·rw [if_neg c7] at H
     exact absurd H (by simp)
  case rest =>
   clear HC5
   try clear c1
   try clear p1
   try clear q1
   try clear hx1
   try clear qi1
   try clear p2
   try clear c3
   try clear c4
   try clear c5
   try clear c6
   try clear c6b0
   try clear c6b1
   try clear c6b2
   try clear p6
   try clear c7
   try clear c7b0
   try clear c7b1
   try clear c8
   try clear c8b0
   try clear c10
   try clear c10b0
   try clear c11
   try clear c11b0
   try clear hx147_0
   try clear hx147_1
   try clear hx148_0
   try clear hx148_1
   try clear p147
   try clear p148
   try clear q147
   try clear q148
   obtain ⟨kq, x42_4, rfl, HA, HJ4, HB⟩ := hcut
   cases kq with
   | zero => exact absurd HA.out (by simp [levyref17_At.j0])
   | succ kj4 =>
    have H := HA.out
    clear HA
    simp only [levyref17_At.j0] at H
    by_cases c12 : x42_4 = true
    ·subst c12
     have H1 : (some (0, 175)) = some (r1, r2) := by rw [if_pos rfl] at H; exact H
     clear H
     have H := H1
     clear H1
     simp only [Option.some.injEq, Prod.mk.injEq] at H
     obtain ⟨rfl, rfl⟩ := H
     go_wp2
     go_ret2
     exact ⟨by first | rfl | (simp [errW_none, errW_some] <;> rfl) | (simp [*, errW_none, errW_some] <;> rfl), blx⟩
    ·replace c12 := Bool.eq_false_iff.mpr c12
     subst c12
     have H1 : (levyref17_At.l0 kj4 l0 a1 0) = some (r1, r2) := by rw [if_neg (show ¬ (false = true) by decide)] at H; exact H
     clear H
     have H := H1
     clear H1
     have H' := Aside0.mk H
     clear H
     go_wp2
     go_loopg [7] kj4 (fun kq v7 w' => ∃ (x7_2 : Int), v7 = .int .i64 x7_2 ∧ Aside0 (levyref17_At.l0 kq l0 a1 x7_2 = some (r1, r2)) ∧ Aside0 (kq ≤ kj4) ∧ Aside0 (Below w.heap.size w w'))
     case atStart => exact ⟨(0), (by first | rfl | (simp; done) | (simp [*]; done)), H', ⟨Nat.le_refl _⟩, ⟨blx⟩⟩
     case round =>
      clear H'
      try clear c1
      try clear p1
      try clear q1
      try clear hx1
      try clear qi1
      try clear p2
      try clear c3
      try clear c4
      try clear c5
      try clear c6
      try clear c6b0
      try clear c6b1
      try clear c6b2
      try clear p6
      try clear c7
      try clear c7b0
      try clear c7b1
      try clear c8
      try clear c8b0
      try clear c10
      try clear c10b0
      try clear c11
      try clear c11b0
      try clear c12
      try clear hx147_0
      try clear hx147_1
      try clear hx148_0
      try clear hx148_1
      try clear p1
      try clear p147
      try clear p148
      try clear p2
      try clear p6
      try clear q1
      try clear q147
      try clear q148
      obtain ⟨x7_2, rfl, HA, HK2, HB⟩ := hrel
      cases gk with
      | zero => exact absurd HA.out (by simp [levyref17_At.l0])
      | succ k2 =>
       have H := HA.out
       clear HA
       simp only [levyref17_At.l0] at H
       by_cases c13 : 0 ≤ x7_2
       ·rw [if_pos c13] at H
        have c13b0 : decide (0 ≤ x7_2) = true := decide_eq_true c13
        clear c13
        by_cases c14 : x7_2 < (l0.length : Int)
        ·rw [if_pos c14] at H
         have c14b0 : decide (x7_2 < (l0.length : Int)) = true := decide_eq_true c14
         clear c14
         by_cases c15 : ((rd_T38 l0 x7_2).f0) < a1
         ·rw [if_pos c15] at H
          have c15b0 : decide (((rd_T38 l0 x7_2).f0) < a1) = true := decide_eq_true c15
          clear c15
          have H' := Aside0.mk H
          clear H
          have p149 : 0 ≤ (x7_2 : Int) := odx
          have q149 : x7_2 < (l0.length : Int) := odx
          obtain ⟨ad149, e149, hx149_0, hx149_1⟩ := at_T38 HR0.out x7_2 p149 q149
          cases e149
          replace hx149_0 := (HB.out.cell (World.block_lt_of_cell? w _ hx149_0)).trans hx149_0
          replace hx149_1 := (HB.out.cell (World.block_lt_of_cell? w _ hx149_1)).trans hx149_1
          replace p149 := eq_true p149
          replace q149 := eq_true q149
          go_wp2
          go_roundg k2
          case measure => have := HJ4.out; have := HK2.out; omega
          case rel => exact ⟨(wrap64 (x7_2 + 1)), (by first | rfl | (simp; done) | (simp [*]; done)), H', ⟨by have := HJ4.out; have := HK2.out; omega⟩, ⟨blx⟩⟩
         ·rw [if_neg c15] at H
          have c15b0 : decide (((rd_T38 l0 x7_2).f0) < a1) = false := decide_eq_false c15
          clear c15
          by_cases c16 : ((rd_T38 l0 x7_2).f0) = a1
          ·rw [if_pos c16] at H
           have c16b0 : (((rd_T38 l0 x7_2).f0) == a1) = true := beq_iff_eq.mpr c16
           have c16b1 : (((rd_T38 l0 x7_2).f0) != a1) = false := bne_eq_false_iff_eq.mpr c16
           clear c16
           simp only [Option.some.injEq, Prod.mk.injEq] at H
           obtain ⟨rfl, rfl⟩ := H
           have p149 : 0 ≤ (x7_2 : Int) := odx
           have q149 : x7_2 < (l0.length : Int) := odx
           obtain ⟨ad149, e149, hx149_0, hx149_1⟩ := at_T38 HR0.out x7_2 p149 q149
           cases e149
           replace hx149_0 := (HB.out.cell (World.block_lt_of_cell? w _ hx149_0)).trans hx149_0
           replace hx149_1 := (HB.out.cell (World.block_lt_of_cell? w _ hx149_1)).trans hx149_1
           replace p149 := eq_true p149
           replace q149 := eq_true q149
           have p150 : 0 ≤ (x7_2 : Int) := odx
           have q150 : x7_2 < (l0.length : Int) := odx
           obtain ⟨ad150, e150, hx150_0, hx150_1⟩ := at_T38 HR0.out x7_2 p150 q150
           obtain rfl : ad149 = ad150 := (by injection e150)
           replace hx150_0 := (HB.out.cell (World.block_lt_of_cell? w _ hx150_0)).trans hx150_0
           replace hx150_1 := (HB.out.cell (World.block_lt_of_cell? w _ hx150_1)).trans hx150_1
           replace p150 := eq_true p150
           replace q150 := eq_true q150
           have p151 : 0 ≤ (x7_2 : Int) := odx
           have q151 : x7_2 < (l0.length : Int) := odx
           obtain ⟨ad151, e151, hx151_0, hx151_1⟩ := at_T38 HR0.out x7_2 p151 q151
           obtain rfl : ad149 = ad151 := (by injection e151)
           replace hx151_0 := (HB.out.cell (World.block_lt_of_cell? w _ hx151_0)).trans hx151_0
           replace hx151_1 := (HB.out.cell (World.block_lt_of_cell? w _ hx151_1)).trans hx151_1
           replace p151 := eq_true p151
           replace q151 := eq_true q151
           go_wp2
           go_ret2
           exact ⟨by first | rfl | (simp [errW_none, errW_some] <;> rfl) | (simp [*, errW_none, errW_some] <;> rfl), blx⟩
          ·rw [if_neg c16] at H
           have c16b0 : (((rd_T38 l0 x7_2).f0) == a1) = false := beq_eq_false_iff_ne.mpr c16
           have c16b1 : (((rd_T38 l0 x7_2).f0) != a1) = true := bne_iff_ne.mpr c16
           obtain ⟨ji17, hji17⟩ : ∃ j_ : Int, (wrap64 (x7_2 - 1)) = j_ := ⟨_, rfl⟩
           replace H : (if 0 ≤ (ji17) then (if (ji17) < (l0.length : Int) then ((levyref17_Sub.f k2 ((rd_T38 l0 x7_2).f1) ((rd_T38 l0 (ji17)).f1)).bind fun t156 => ((levyref17_Whole.f (wrap64 (a1 - ((rd_T38 l0 (ji17)).f0)))).bind fun t157 => ((levyref17_Whole.f (wrap64 (((rd_T38 l0 x7_2).f0) - ((rd_T38 l0 (ji17)).f0)))).bind fun t158 => ((levyref17_Div.f k2 t157 t158).bind fun t159 => ((levyref17_Finite.f t156).bind fun t160 => (if t160 = true then ((levyref17_Mul.f t156 t159).bind fun t161 => ((levyref17_Add.f k2 ((rd_T38 l0 (ji17)).f1) t161).bind fun t162 => (some (t162, 0)))) else (some (t156, 0)))))))) else (none)) else (none)) = some (r1, r2) := by first | (rw [hji17] at H; exact H) | (simp only [hji17] at H ⊢; exact H)
           have hji17w : (IntKind.i64.wrap (x7_2 - 1)) = ji17 := (i64_w _).trans hji17
           by_cases c18 : 0 ≤ (ji17)
           ·rw [if_pos c18] at H
            have c18b0 : decide (0 ≤ (ji17)) = true := decide_eq_true c18
            clear c18
            by_cases c19 : (ji17) < (l0.length : Int)
            ·rw [if_pos c19] at H
             have c19b0 : decide ((ji17) < (l0.length : Int)) = true := decide_eq_true c19
             clear c19
             replace H := Option.bind_eq_some_iff.mp H
             obtain ⟨t156, A200, H⟩ := H
             replace H : ((levyref17_Whole.f (wrap64 (a1 - ((rd_T38 l0 (ji17)).f0)))).bind fun t157 => ((levyref17_Whole.f (wrap64 (((rd_T38 l0 x7_2).f0) - ((rd_T38 l0 (ji17)).f0)))).bind fun t158 => ((levyref17_Div.f k2 t157 t158).bind fun t159 => ((levyref17_Finite.f t156).bind fun t160 => (if t160 = true then ((levyref17_Mul.f t156 t159).bind fun t161 => ((levyref17_Add.f k2 ((rd_T38 l0 (ji17)).f1) t161).bind fun t162 => (some (t162, 0)))) else (some (t156, 0))))))) = some (r1, r2) := H
             have A20 := Aside0.mk A200
             clear A200
             replace H := Option.bind_eq_some_iff.mp H
             obtain ⟨t157, A210, H⟩ := H
             replace H : ((levyref17_Whole.f (wrap64 (((rd_T38 l0 x7_2).f0) - ((rd_T38 l0 (ji17)).f0)))).bind fun t158 => ((levyref17_Div.f k2 t157 t158).bind fun t159 => ((levyref17_Finite.f t156).bind fun t160 => (if t160 = true then ((levyref17_Mul.f t156 t159).bind fun t161 => ((levyref17_Add.f k2 ((rd_T38 l0 (ji17)).f1) t161).bind fun t162 => (some (t162, 0)))) else (some (t156, 0)))))) = some (r1, r2) := H
             have A21 := Aside0.mk A210
             clear A210
             replace H := Option.bind_eq_some_iff.mp H
             obtain ⟨t158, A220, H⟩ := H
             replace H : ((levyref17_Div.f k2 t157 t158).bind fun t159 => ((levyref17_Finite.f t156).bind fun t160 => (if t160 = true then ((levyref17_Mul.f t156 t159).bind fun t161 => ((levyref17_Add.f k2 ((rd_T38 l0 (ji17)).f1) t161).bind fun t162 => (some (t162, 0)))) else (some (t156, 0))))) = some (r1, r2) := H
             have A22 := Aside0.mk A220
             clear A220
             replace H := Option.bind_eq_some_iff.mp H
             obtain ⟨t159, A230, H⟩ := H
             replace H : ((levyref17_Finite.f t156).bind fun t160 => (if t160 = true then ((levyref17_Mul.f t156 t159).bind fun t161 => ((levyref17_Add.f k2 ((rd_T38 l0 (ji17)).f1) t161).bind fun t162 => (some (t162, 0)))) else (some (t156, 0)))) = some (r1, r2) := H
             have A23 := Aside0.mk A230
             clear A230
             replace H := Option.bind_eq_some_iff.mp H
             obtain ⟨t160, A240, H⟩ := H
             replace H : (if t160 = true then ((levyref17_Mul.f t156 t159).bind fun t161 => ((levyref17_Add.f k2 ((rd_T38 l0 (ji17)).f1) t161).bind fun t162 => (some (t162, 0)))) else (some (t156, 0))) = some (r1, r2) := H
             have A24 := Aside0.mk A240
             clear A240
             by_cases c25 : t160 = true
             ·subst c25
              have H1 : ((levyref17_Mul.f t156 t159).bind fun t161 => ((levyref17_Add.f k2 ((rd_T38 l0 (ji17)).f1) t161).bind fun t162 => (some (t162, 0)))) = some (r1, r2) := by rw [if_pos rfl] at H; exact H
              clear H
              have H := H1
              clear H1
              replace H := Option.bind_eq_some_iff.mp H
              obtain ⟨t161, A260, H⟩ := H
              replace H : ((levyref17_Add.f k2 ((rd_T38 l0 (ji17)).f1) t161).bind fun t162 => (some (t162, 0))) = some (r1, r2) := H
              have A26 := Aside0.mk A260
              clear A260
              replace H := Option.bind_eq_some_iff.mp H
              obtain ⟨t162, A270, H⟩ := H
              replace H : (some (t162, 0)) = some (r1, r2) := H
              have A27 := Aside0.mk A270
              clear A270
              simp only [Option.some.injEq, Prod.mk.injEq] at H
              obtain ⟨rfl, rfl⟩ := H
              have p149 : 0 ≤ (x7_2 : Int) := odx
              have q149 : x7_2 < (l0.length : Int) := odx
              obtain ⟨ad149, e149, hx149_0, hx149_1⟩ := at_T38 HR0.out x7_2 p149 q149
              cases e149
              replace hx149_0 := (HB.out.cell (World.block_lt_of_cell? w _ hx149_0)).trans hx149_0
              replace hx149_1 := (HB.out.cell (World.block_lt_of_cell? w _ hx149_1)).trans hx149_1
              replace p149 := eq_true p149
              replace q149 := eq_true q149
              have p150 : 0 ≤ (x7_2 : Int) := odx
              have q150 : x7_2 < (l0.length : Int) := odx
              obtain ⟨ad150, e150, hx150_0, hx150_1⟩ := at_T38 HR0.out x7_2 p150 q150
              obtain rfl : ad149 = ad150 := (by injection e150)
              replace hx150_0 := (HB.out.cell (World.block_lt_of_cell? w _ hx150_0)).trans hx150_0
              replace hx150_1 := (HB.out.cell (World.block_lt_of_cell? w _ hx150_1)).trans hx150_1
              replace p150 := eq_true p150
              replace q150 := eq_true q150
              try go_wp2
              have n0_ := Aside0.mk (below_drew1 HB.out)
              clear HB
              have HB := n0_
              clear n0_
              have p152 : 0 ≤ ((ji17) : Int) := odx
              have q152 : (ji17) < (l0.length : Int) := odx
              obtain ⟨ad152, e152, hx152_0, hx152_1⟩ := at_T38 HR0.out (ji17) p152 q152
              have hw152_1 := hx152_1
              have hw152_0 := hx152_0
              obtain rfl : ad149 = ad152 := (by injection e152)
              replace hx152_0 := (HB.out.cell (World.block_lt_of_cell? w _ hx152_0)).trans hx152_0
              replace hx152_1 := (HB.out.cell (World.block_lt_of_cell? w _ hx152_1)).trans hx152_1
              replace p152 := eq_true p152
              replace q152 := eq_true q152
              have p153 : 0 ≤ (x7_2 : Int) := odx
              have q153 : x7_2 < (l0.length : Int) := odx
              obtain ⟨ad153, e153, hx153_0, hx153_1⟩ := at_T38 HR0.out x7_2 p153 q153
              have hw153_1 := hx153_1
              have hw153_0 := hx153_0
              obtain rfl : ad149 = ad153 := (by injection e153)
              replace hx153_0 := (HB.out.cell (World.block_lt_of_cell? w _ hx153_0)).trans hx153_0
              replace hx153_1 := (HB.out.cell (World.block_lt_of_cell? w _ hx153_1)).trans hx153_1
              replace p153 := eq_true p153
              replace q153 := eq_true q153
              refine start_ (n := 13) (S := fun w' => w'.cell? (ad149.add (((ji17)).toNat * 2)) = some (.int .i64 ((rd_T38 l0 (ji17)).f0)) ∧ w'.cell? ⟨(ad149.add (((ji17)).toNat * 2)).block, (ad149.add (((ji17)).toNat * 2)).off + 1, none⟩ = some (.int .u32 ((rd_T38 l0 (ji17)).f1)) ∧ w'.cell? (ad149.add ((x7_2).toNat * 2)) = some (.int .i64 ((rd_T38 l0 x7_2).f0)) ∧ w'.cell? ⟨(ad149.add ((x7_2).toNat * 2)).block, (ad149.add ((x7_2).toNat * 2)).off + 1, none⟩ = some (.int .u32 ((rd_T38 l0 x7_2).f1))) (ds := []) #[false, false, false, false, false, false, false, false, false, false, false, false, false] (by kernel_rfl) rfl rfl ⟨((HB.out.cell (World.block_lt_of_cell? w _ hw152_0)).trans hw152_0), ((HB.out.cell (World.block_lt_of_cell? w _ hw152_1)).trans hw152_1), ((HB.out.cell (World.block_lt_of_cell? w _ hw153_0)).trans hw153_0), ((HB.out.cell (World.block_lt_of_cell? w _ hw153_1)).trans hw153_1)⟩ (fun hHeld => ?_); refine with_tabW levyref17_At.tab11 levyref17_At.bits11 (fun HT_ HW_ => ?_)
              generalize wr.drew = w28 at HB hx152_0 hx152_1 hx153_0 hx153_1 hHeld ⊢
              refine pure_ (i := 0) (N := some 64) (v := ?_) (a' := ?_) #[true, false, false, false, false, false, false, false, false, false, false, false, false] rfl rfl (any_of HT_.out (by kernel_rfl)) (fun _ _ _ h => h) (Or.inl ⟨by rfl, ?_⟩) ?_ ?_
              rotate_left
              ·intro w'
               go_simp
               with_reducible rfl
              rotate_left
              ·simp only [Act.put, List.setIfInBounds_toArray, List.set_cons_zero, List.set_cons_succ, i64_w, i32_w]
               rfl
              refine pure_ (i := 1) (N := some 65) (v := ?_) (a' := ?_) #[true, true, false, false, false, false, false, false, false, false, false, false, false] rfl rfl (any_of HT_.out (by kernel_rfl)) (fun _ _ _ h => h) (Or.inl ⟨by rfl, ?_⟩) ?_ ?_
              rotate_left
              ·intro w'
               go_simp
               with_reducible rfl
              rotate_left
              ·simp only [Act.put, List.setIfInBounds_toArray, List.set_cons_zero, List.set_cons_succ, i64_w, i32_w]
               rfl
              refine pure_ (i := 2) (N := some 66) (v := ?_) (a' := ?_) #[true, true, true, false, false, false, false, false, false, false, false, false, false] rfl rfl (any_of HT_.out (by kernel_rfl)) (fun _ _ _ h => h) (Or.inl ⟨by rfl, ?_⟩) ?_ ?_
              rotate_left
              ·intro w'
               go_simp
               with_reducible rfl
              rotate_left
              ·simp only [Act.put, List.setIfInBounds_toArray, List.set_cons_zero, List.set_cons_succ, i64_w, i32_w]
               rfl
              refine pure_ (i := 3) (N := some 67) (v := ?_) (a' := ?_) #[true, true, true, true, false, false, false, false, false, false, false, false, false] rfl rfl (any_of HT_.out (by kernel_rfl)) (fun _ _ _ h => h) (Or.inl ⟨by rfl, ?_⟩) ?_ ?_
              rotate_left
              ·intro w'
               go_simp
               with_reducible rfl
              rotate_left
              ·simp only [Act.put, List.setIfInBounds_toArray, List.set_cons_zero, List.set_cons_succ, i64_w, i32_w]
               rfl
              refine pure_ (i := 5) (N := some 69) (v := ?_) (a' := ?_) #[true, true, true, true, false, true, false, false, false, false, false, false, false] rfl rfl (any_of HT_.out (by kernel_rfl)) (fun _ _ _ h => h) (Or.inl ⟨by rfl, ?_⟩) ?_ ?_
              rotate_left
              ·intro w'
               go_simp
               with_reducible rfl
              rotate_left
              ·simp only [Act.put, List.setIfInBounds_toArray, List.set_cons_zero, List.set_cons_succ, i64_w, i32_w]
               rfl
              refine pure_ (i := 6) (N := some 70) (v := ?_) (a' := ?_) #[true, true, true, true, false, true, true, false, false, false, false, false, false] rfl rfl (any_of HT_.out (by kernel_rfl)) (fun _ _ _ h => h) (Or.inl ⟨by rfl, ?_⟩) ?_ ?_
              rotate_left
              ·intro w'
               go_simp
               with_reducible rfl
              rotate_left
              ·simp only [Act.put, List.setIfInBounds_toArray, List.set_cons_zero, List.set_cons_succ, i64_w, i32_w]
               rfl
              refine pure_ (i := 7) (N := some 71) (v := ?_) (a' := ?_) #[true, true, true, true, false, true, true, true, false, false, false, false, false] rfl rfl (any_of HT_.out (by kernel_rfl)) (fun _ _ _ h => h) (Or.inl ⟨by rfl, ?_⟩) ?_ ?_
              rotate_left
              ·intro w'
               go_simp
               with_reducible rfl
              rotate_left
              ·simp only [Act.put, List.setIfInBounds_toArray, List.set_cons_zero, List.set_cons_succ, i64_w, i32_w]
               rfl
              refine take_ (i := 4) (N := some 68) (v := ?_) (a' := ?_) #[true, true, true, true, true, true, true, true, false, false, false, false, false] rfl rfl (take_ofW HT_.out HW_.out (by kernel_rfl)) (fun _ _ _ h => h) (Or.inl ⟨by rfl, ?_⟩) hHeld ?_ ?_
              rotate_left
              ·rintro w' ⟨s0, s1, s2, s3⟩
               go_simp
               with_reducible rfl
              rotate_left
              ·simp only [Act.put, List.setIfInBounds_toArray, List.set_cons_zero, List.set_cons_succ, i64_w, i32_w]
               rfl
              refine take_ (i := 8) (N := some 72) (v := ?_) (a' := ?_) #[true, true, true, true, true, true, true, true, true, false, false, false, false] rfl rfl (take_ofW HT_.out HW_.out (by kernel_rfl)) (fun _ _ _ h => h) (Or.inl ⟨by rfl, ?_⟩) hHeld ?_ ?_
              rotate_left
              ·rintro w' ⟨s0, s1, s2, s3⟩
               go_simp
               with_reducible rfl
              rotate_left
              ·simp only [Act.put, List.setIfInBounds_toArray, List.set_cons_zero, List.set_cons_succ, i64_w, i32_w]
               rfl
              refine join_ (σ := Nat × Nat) 2 #[true, true, true, true, true, true, true, true, true, true, true, false, false] (fun s_ => [(8, .pointer (some ⟨s_.1, 0, none⟩)), (9, .pointer (some ⟨s_.2, 0, none⟩))]) (fun s_ w' => (w'.cell? (ad149.add (((ji17)).toNat * 2)) = some (.int .i64 ((rd_T38 l0 (ji17)).f0)) ∧ w'.cell? ⟨(ad149.add (((ji17)).toNat * 2)).block, (ad149.add (((ji17)).toNat * 2)).off + 1, none⟩ = some (.int .u32 ((rd_T38 l0 (ji17)).f1)) ∧ w'.cell? (ad149.add ((x7_2).toNat * 2)) = some (.int .i64 ((rd_T38 l0 x7_2).f0)) ∧ w'.cell? ⟨(ad149.add ((x7_2).toNat * 2)).block, (ad149.add ((x7_2).toNat * 2)).off + 1, none⟩ = some (.int .u32 ((rd_T38 l0 x7_2).f1))) ∧ (w'.heap[s_.1]? = some (.cells #[.int .i64 0, .int .u32 0] 38 (0, 0))) ∧ (w'.heap[s_.2]? = some (.cells #[.int .i64 0, .int .u32 0] 38 (0, 0))) ∧ (w.heap.size ≤ s_.1) ∧ (w.heap.size ≤ s_.1) ∧ (s_.2 ≠ s_.1) ∧ (s_.1 ≠ s_.2) ∧ (w.heap.size ≤ s_.2) ∧ (w.heap.size ≤ s_.2) ∧ (Below w.heap.size w w')) ?_ ?_
              rotate_left
              ·intro hCont
               refine two_ (i := 9) (j := 10) (Ni := some 8) (Nj := some 9) #[true, true, true, true, true, true, true, true, true, true, false, false, false] #[true, true, true, true, true, true, true, true, true, false, true, false, false] rfl rfl rfl rfl (two_of HT_.out (by kernel_rfl)) (by decide) (by decide) (fun K hK => ?_) (fun K hK => ?_)
               ·skip
                refine box_step ?hg (N := 8) ?hd (cs := #[.int .i64 0, .int .u32 0]) (t := 38) ?hr ?_; (case hd => rfl); (case hg => rfl); (case hr => first | (go_simp; done) | (go_simp; rfl))
                intro gb154 hg w29 hbox hb
                have n0_ := Aside0.mk (below_step blx hb)
                have n1_ := Aside0.mk (hbox)
                have n2_ := Aside0.mk ((by rw [hg]; exact (below_size blx) : w.heap.size ≤ gb154))
                have n3_ := Aside0.mk ((by rw [hg]; exact (below_size blx) : w.heap.size ≤ gb154))
                clear HB
                have HB := n0_
                have BK154 := n1_
                have GW154 := n2_
                have GE154 := n3_
                clear n0_ n1_ n2_ n3_
                clear hb hbox hg
                refine hK.out _ _ ⟨((HB.out.cell (World.block_lt_of_cell? w _ hw152_0)).trans hw152_0), ((HB.out.cell (World.block_lt_of_cell? w _ hw152_1)).trans hw152_1), ((HB.out.cell (World.block_lt_of_cell? w _ hw153_0)).trans hw153_0), ((HB.out.cell (World.block_lt_of_cell? w _ hw153_1)).trans hw153_1)⟩ (fun hHeld => ?_)
                clear hK K
                refine norm_ (a' := ?_) ?_ ?_
                rotate_left
                ·show Act.put _ (some 8) _ = _
                 simp only [Act.put, List.setIfInBounds_toArray, List.set_cons_zero, List.set_cons_succ, i64_w, i32_w]
                 rfl
                refine one_ (i := 10) (N := some 9) #[true, true, true, true, true, true, true, true, true, true, true, false, false] rfl rfl (one_of HT_.out (by kernel_rfl)) (by decide) (fun K hK => ?_)
                refine box_step ?hg (N := 9) ?hd (cs := #[.int .i64 0, .int .u32 0]) (t := 38) ?hr ?_; (case hd => rfl); (case hg => rfl); (case hr => first | (go_simp; done) | (go_simp; rfl))
                intro gb155 hg w30 hbox hb
                have n0_ := Aside0.mk (blk_below (g := gb154) (o := .cells #[.int .i64 0, .int .u32 0] 38 (0, 0)) bkx hb)
                have n1_ := Aside0.mk (below_step blx hb)
                have n2_ := Aside0.mk (hbox)
                have n3_ := Aside0.mk ((by rw [hg]; exact (below_size blx) : w.heap.size ≤ gb155))
                have n4_ := Aside0.mk ((by rw [hg]; exact (below_size blx) : w.heap.size ≤ gb155))
                have n5_ := Aside0.mk ((by rw [hg]; exact Nat.ne_of_lt (blk_lt (g := gb154) (o := .cells #[.int .i64 0, .int .u32 0] 38 (0, 0)) bkx) : gb154 ≠ gb155))
                have n6_ := Aside0.mk ((by rw [hg]; exact Nat.ne_of_gt (blk_lt (g := gb154) (o := .cells #[.int .i64 0, .int .u32 0] 38 (0, 0)) bkx) : gb155 ≠ gb154))
                clear BK154
                clear HB
                have BK154 := n0_
                have HB := n1_
                have BK155 := n2_
                have GW155 := n3_
                have GE155 := n4_
                have NB154_155 := n5_
                have NB155_154 := n6_
                clear n0_ n1_ n2_ n3_ n4_ n5_ n6_
                clear hb hbox hg
                refine hK.out _ _ ⟨((HB.out.cell (World.block_lt_of_cell? w _ hw152_0)).trans hw152_0), ((HB.out.cell (World.block_lt_of_cell? w _ hw152_1)).trans hw152_1), ((HB.out.cell (World.block_lt_of_cell? w _ hw153_0)).trans hw153_0), ((HB.out.cell (World.block_lt_of_cell? w _ hw153_1)).trans hw153_1)⟩ (fun hHeld => ?_)
                clear hK K
                refine norm_ (a' := ?_) ?_ ?_
                rotate_left
                ·show Act.put _ (some 9) _ = _
                 simp only [Act.put, List.setIfInBounds_toArray, List.set_cons_zero, List.set_cons_succ, i64_w, i32_w]
                 rfl
                exact norm_ (by simp only [putAll, Act.put, List.setIfInBounds_toArray, List.set_cons_zero, List.set_cons_succ]) (hCont (gb154, gb155) _ ⟨hHeld, bkx, bkx, GW154.out, GE154.out, NB155_154.out, NB154_155.out, GW155.out, GE155.out, blx⟩)
               ·skip
                refine box_step ?hg (N := 9) ?hd (cs := #[.int .i64 0, .int .u32 0]) (t := 38) ?hr ?_; (case hd => rfl); (case hg => rfl); (case hr => first | (go_simp; done) | (go_simp; rfl))
                intro gb155 hg w29 hbox hb
                have n0_ := Aside0.mk (below_step blx hb)
                have n1_ := Aside0.mk (hbox)
                have n2_ := Aside0.mk ((by rw [hg]; exact (below_size blx) : w.heap.size ≤ gb155))
                have n3_ := Aside0.mk ((by rw [hg]; exact (below_size blx) : w.heap.size ≤ gb155))
                clear HB
                have HB := n0_
                have BK155 := n1_
                have GW155 := n2_
                have GE155 := n3_
                clear n0_ n1_ n2_ n3_
                clear hb hbox hg
                refine hK.out _ _ ⟨((HB.out.cell (World.block_lt_of_cell? w _ hw152_0)).trans hw152_0), ((HB.out.cell (World.block_lt_of_cell? w _ hw152_1)).trans hw152_1), ((HB.out.cell (World.block_lt_of_cell? w _ hw153_0)).trans hw153_0), ((HB.out.cell (World.block_lt_of_cell? w _ hw153_1)).trans hw153_1)⟩ (fun hHeld => ?_)
                clear hK K
                refine norm_ (a' := ?_) ?_ ?_
                rotate_left
                ·show Act.put _ (some 9) _ = _
                 simp only [Act.put, List.setIfInBounds_toArray, List.set_cons_zero, List.set_cons_succ, i64_w, i32_w]
                 rfl
                refine one_ (i := 9) (N := some 8) #[true, true, true, true, true, true, true, true, true, true, true, false, false] rfl rfl (one_of HT_.out (by kernel_rfl)) (by decide) (fun K hK => ?_)
                refine box_step ?hg (N := 8) ?hd (cs := #[.int .i64 0, .int .u32 0]) (t := 38) ?hr ?_; (case hd => rfl); (case hg => rfl); (case hr => first | (go_simp; done) | (go_simp; rfl))
                intro gb154 hg w30 hbox hb
                have n0_ := Aside0.mk (blk_below (g := gb155) (o := .cells #[.int .i64 0, .int .u32 0] 38 (0, 0)) bkx hb)
                have n1_ := Aside0.mk (below_step blx hb)
                have n2_ := Aside0.mk (hbox)
                have n3_ := Aside0.mk ((by rw [hg]; exact (below_size blx) : w.heap.size ≤ gb154))
                have n4_ := Aside0.mk ((by rw [hg]; exact (below_size blx) : w.heap.size ≤ gb154))
                have n5_ := Aside0.mk ((by rw [hg]; exact Nat.ne_of_lt (blk_lt (g := gb155) (o := .cells #[.int .i64 0, .int .u32 0] 38 (0, 0)) bkx) : gb155 ≠ gb154))
                have n6_ := Aside0.mk ((by rw [hg]; exact Nat.ne_of_gt (blk_lt (g := gb155) (o := .cells #[.int .i64 0, .int .u32 0] 38 (0, 0)) bkx) : gb154 ≠ gb155))
                clear BK155
                clear HB
                have BK155 := n0_
                have HB := n1_
                have BK154 := n2_
                have GW154 := n3_
                have GE154 := n4_
                have NB155_154 := n5_
                have NB154_155 := n6_
                clear n0_ n1_ n2_ n3_ n4_ n5_ n6_
                clear hb hbox hg
                refine hK.out _ _ ⟨((HB.out.cell (World.block_lt_of_cell? w _ hw152_0)).trans hw152_0), ((HB.out.cell (World.block_lt_of_cell? w _ hw152_1)).trans hw152_1), ((HB.out.cell (World.block_lt_of_cell? w _ hw153_0)).trans hw153_0), ((HB.out.cell (World.block_lt_of_cell? w _ hw153_1)).trans hw153_1)⟩ (fun hHeld => ?_)
                clear hK K
                refine norm_ (a' := ?_) ?_ ?_
                rotate_left
                ·show Act.put _ (some 8) _ = _
                 simp only [Act.put, List.setIfInBounds_toArray, List.set_cons_zero, List.set_cons_succ, i64_w, i32_w]
                 rfl
                exact norm_ (by simp only [putAll, Act.put, List.setIfInBounds_toArray, List.set_cons_zero, List.set_cons_succ]) (hCont (gb154, gb155) _ ⟨hHeld, bkx, bkx, GW154.out, GE154.out, NB155_154.out, NB154_155.out, GW155.out, GE155.out, blx⟩)
              rintro ⟨gb154, gb155⟩ w31 ⟨hS_, h0_, h1_, h2_, h3_, h4_, h5_, h6_, h7_, h8_⟩
              have n0_ : Aside0 (w31.heap[gb154]? = some (.cells #[.int .i64 0, .int .u32 0] 38 (0, 0))) := ⟨h0_⟩
              have n1_ : Aside0 (w31.heap[gb155]? = some (.cells #[.int .i64 0, .int .u32 0] 38 (0, 0))) := ⟨h1_⟩
              have n2_ : Aside0 (w.heap.size ≤ gb154) := ⟨h2_⟩
              have n3_ : Aside0 (w.heap.size ≤ gb154) := ⟨h3_⟩
              have n4_ : Aside0 (gb155 ≠ gb154) := ⟨h4_⟩
              have n5_ : Aside0 (gb154 ≠ gb155) := ⟨h5_⟩
              have n6_ : Aside0 (w.heap.size ≤ gb155) := ⟨h6_⟩
              have n7_ : Aside0 (w.heap.size ≤ gb155) := ⟨h7_⟩
              have n8_ : Aside0 (Below w.heap.size w w31) := ⟨h8_⟩
              clear HB
              clear h0_ h1_ h2_ h3_ h4_ h5_ h6_ h7_ h8_
              have BK154 := n0_
              have BK155 := n1_
              have GW154 := n2_
              have GE154 := n3_
              have NB155_154 := n4_
              have NB154_155 := n5_
              have GW155 := n6_
              have GE155 := n7_
              have HB := n8_
              clear n0_ n1_ n2_ n3_ n4_ n5_ n6_ n7_ n8_
              have hHeld : w31.cell? (ad149.add (((ji17)).toNat * 2)) = some (.int .i64 ((rd_T38 l0 (ji17)).f0)) ∧ w31.cell? ⟨(ad149.add (((ji17)).toNat * 2)).block, (ad149.add (((ji17)).toNat * 2)).off + 1, none⟩ = some (.int .u32 ((rd_T38 l0 (ji17)).f1)) ∧ w31.cell? (ad149.add ((x7_2).toNat * 2)) = some (.int .i64 ((rd_T38 l0 x7_2).f0)) ∧ w31.cell? ⟨(ad149.add ((x7_2).toNat * 2)).block, (ad149.add ((x7_2).toNat * 2)).off + 1, none⟩ = some (.int .u32 ((rd_T38 l0 x7_2).f1)) := hS_
              refine norm_ (a' := ?_) ?_ ?_
              rotate_left
              ·simp only [putAll, Act.put, List.setIfInBounds_toArray, List.set_cons_zero, List.set_cons_succ]
               rfl
              refine one_ (i := 11) (N := none) #[true, true, true, true, true, true, true, true, true, true, true, true, false] rfl rfl (one_of HT_.out (by kernel_rfl)) (by decide) (fun K hK => ?_)
              have hs32 : w31.cell? ⟨gb154, 0, none⟩ = some (.int .i64 0) := (blk_cell BK154.out 0).trans rfl
              have hfs32 := blk_frozen BK154.out 0
              have hns32_1 := NB155_154.out
              have hms32_1 := NB154_155.out
              have hs33 : w31.cell? ⟨gb154, 1, none⟩ = some (.int .u32 0) := (blk_cell BK154.out 1).trans rfl
              have hfs33 := blk_frozen BK154.out 1
              have hns33_1 := NB155_154.out
              have hms33_1 := NB154_155.out
              refine skip_ (w1 := ?_) (by rfl) rfl ?_ ?_
              rotate_left
              ·go_simp
               rfl
              refine hK.out _ _ ⟨((cell_far (p := ⟨gb154, _, none⟩) (by first | exact Nat.ne_of_lt (Nat.lt_of_lt_of_le (by have := World.block_lt_of_cell? _ _ hw152_0; first | rwa [add_block] at this | exact this) GW154.out) | (rw [add_block]; exact Nat.ne_of_lt (Nat.lt_of_lt_of_le (by have := World.block_lt_of_cell? _ _ hw152_0; first | rwa [add_block] at this | exact this) GW154.out)) | (show (Addr.add _ _).block ≠ _; rw [add_block]; exact Nat.ne_of_lt (Nat.lt_of_lt_of_le (by have := World.block_lt_of_cell? _ _ hw152_0; first | rwa [add_block] at this | exact this) GW154.out)) | (dsimp only; exact Nat.ne_of_lt (Nat.lt_of_lt_of_le (by have := World.block_lt_of_cell? _ _ hw152_0; first | rwa [add_block] at this | exact this) GW154.out))) _).trans (((cell_far (p := ⟨gb154, _, none⟩) (by first | exact Nat.ne_of_lt (Nat.lt_of_lt_of_le (by have := World.block_lt_of_cell? _ _ hw152_0; first | rwa [add_block] at this | exact this) GW154.out) | (rw [add_block]; exact Nat.ne_of_lt (Nat.lt_of_lt_of_le (by have := World.block_lt_of_cell? _ _ hw152_0; first | rwa [add_block] at this | exact this) GW154.out)) | (show (Addr.add _ _).block ≠ _; rw [add_block]; exact Nat.ne_of_lt (Nat.lt_of_lt_of_le (by have := World.block_lt_of_cell? _ _ hw152_0; first | rwa [add_block] at this | exact this) GW154.out)) | (dsimp only; exact Nat.ne_of_lt (Nat.lt_of_lt_of_le (by have := World.block_lt_of_cell? _ _ hw152_0; first | rwa [add_block] at this | exact this) GW154.out))) _).trans (hHeld.1)))), ((cell_far (p := ⟨gb154, _, none⟩) (by first | exact Nat.ne_of_lt (Nat.lt_of_lt_of_le (by have := World.block_lt_of_cell? _ _ hw152_1; first | rwa [add_block] at this | exact this) GW154.out) | (rw [add_block]; exact Nat.ne_of_lt (Nat.lt_of_lt_of_le (by have := World.block_lt_of_cell? _ _ hw152_1; first | rwa [add_block] at this | exact this) GW154.out)) | (show (Addr.add _ _).block ≠ _; rw [add_block]; exact Nat.ne_of_lt (Nat.lt_of_lt_of_le (by have := World.block_lt_of_cell? _ _ hw152_1; first | rwa [add_block] at this | exact this) GW154.out)) | (dsimp only; exact Nat.ne_of_lt (Nat.lt_of_lt_of_le (by have := World.block_lt_of_cell? _ _ hw152_1; first | rwa [add_block] at this | exact this) GW154.out))) _).trans (((cell_far (p := ⟨gb154, _, none⟩) (by first | exact Nat.ne_of_lt (Nat.lt_of_lt_of_le (by have := World.block_lt_of_cell? _ _ hw152_1; first | rwa [add_block] at this | exact this) GW154.out) | (rw [add_block]; exact Nat.ne_of_lt (Nat.lt_of_lt_of_le (by have := World.block_lt_of_cell? _ _ hw152_1; first | rwa [add_block] at this | exact this) GW154.out)) | (show (Addr.add _ _).block ≠ _; rw [add_block]; exact Nat.ne_of_lt (Nat.lt_of_lt_of_le (by have := World.block_lt_of_cell? _ _ hw152_1; first | rwa [add_block] at this | exact this) GW154.out)) | (dsimp only; exact Nat.ne_of_lt (Nat.lt_of_lt_of_le (by have := World.block_lt_of_cell? _ _ hw152_1; first | rwa [add_block] at this | exact this) GW154.out))) _).trans (hHeld.2.1)))), ((cell_far (p := ⟨gb154, _, none⟩) (by first | exact Nat.ne_of_lt (Nat.lt_of_lt_of_le (by have := World.block_lt_of_cell? _ _ hw153_0; first | rwa [add_block] at this | exact this) GW154.out) | (rw [add_block]; exact Nat.ne_of_lt (Nat.lt_of_lt_of_le (by have := World.block_lt_of_cell? _ _ hw153_0; first | rwa [add_block] at this | exact this) GW154.out)) | (show (Addr.add _ _).block ≠ _; rw [add_block]; exact Nat.ne_of_lt (Nat.lt_of_lt_of_le (by have := World.block_lt_of_cell? _ _ hw153_0; first | rwa [add_block] at this | exact this) GW154.out)) | (dsimp only; exact Nat.ne_of_lt (Nat.lt_of_lt_of_le (by have := World.block_lt_of_cell? _ _ hw153_0; first | rwa [add_block] at this | exact this) GW154.out))) _).trans (((cell_far (p := ⟨gb154, _, none⟩) (by first | exact Nat.ne_of_lt (Nat.lt_of_lt_of_le (by have := World.block_lt_of_cell? _ _ hw153_0; first | rwa [add_block] at this | exact this) GW154.out) | (rw [add_block]; exact Nat.ne_of_lt (Nat.lt_of_lt_of_le (by have := World.block_lt_of_cell? _ _ hw153_0; first | rwa [add_block] at this | exact this) GW154.out)) | (show (Addr.add _ _).block ≠ _; rw [add_block]; exact Nat.ne_of_lt (Nat.lt_of_lt_of_le (by have := World.block_lt_of_cell? _ _ hw153_0; first | rwa [add_block] at this | exact this) GW154.out)) | (dsimp only; exact Nat.ne_of_lt (Nat.lt_of_lt_of_le (by have := World.block_lt_of_cell? _ _ hw153_0; first | rwa [add_block] at this | exact this) GW154.out))) _).trans (hHeld.2.2.1)))), ((cell_far (p := ⟨gb154, _, none⟩) (by first | exact Nat.ne_of_lt (Nat.lt_of_lt_of_le (by have := World.block_lt_of_cell? _ _ hw153_1; first | rwa [add_block] at this | exact this) GW154.out) | (rw [add_block]; exact Nat.ne_of_lt (Nat.lt_of_lt_of_le (by have := World.block_lt_of_cell? _ _ hw153_1; first | rwa [add_block] at this | exact this) GW154.out)) | (show (Addr.add _ _).block ≠ _; rw [add_block]; exact Nat.ne_of_lt (Nat.lt_of_lt_of_le (by have := World.block_lt_of_cell? _ _ hw153_1; first | rwa [add_block] at this | exact this) GW154.out)) | (dsimp only; exact Nat.ne_of_lt (Nat.lt_of_lt_of_le (by have := World.block_lt_of_cell? _ _ hw153_1; first | rwa [add_block] at this | exact this) GW154.out))) _).trans (((cell_far (p := ⟨gb154, _, none⟩) (by first | exact Nat.ne_of_lt (Nat.lt_of_lt_of_le (by have := World.block_lt_of_cell? _ _ hw153_1; first | rwa [add_block] at this | exact this) GW154.out) | (rw [add_block]; exact Nat.ne_of_lt (Nat.lt_of_lt_of_le (by have := World.block_lt_of_cell? _ _ hw153_1; first | rwa [add_block] at this | exact this) GW154.out)) | (show (Addr.add _ _).block ≠ _; rw [add_block]; exact Nat.ne_of_lt (Nat.lt_of_lt_of_le (by have := World.block_lt_of_cell? _ _ hw153_1; first | rwa [add_block] at this | exact this) GW154.out)) | (dsimp only; exact Nat.ne_of_lt (Nat.lt_of_lt_of_le (by have := World.block_lt_of_cell? _ _ hw153_1; first | rwa [add_block] at this | exact this) GW154.out))) _).trans (hHeld.2.2.2))))⟩ (fun hHeld => ?_)
              clear hK K
              refine one_ (i := 12) (N := none) #[true, true, true, true, true, true, true, true, true, true, true, true, true] rfl rfl (one_of HT_.out (by kernel_rfl)) (by decide) (fun K hK => ?_)
              have hs34 : w31.cell? ⟨gb155, 0, none⟩ = some (.int .i64 0) := (blk_cell BK155.out 0).trans rfl
              have hfs34 := blk_frozen BK155.out 0
              have hns34_0 := NB154_155.out
              have hms34_0 := NB155_154.out
              have hs35 : w31.cell? ⟨gb155, 1, none⟩ = some (.int .u32 0) := (blk_cell BK155.out 1).trans rfl
              have hfs35 := blk_frozen BK155.out 1
              have hns35_0 := NB154_155.out
              have hms35_0 := NB155_154.out
              refine skip_ (w1 := ?_) (by rfl) rfl ?_ ?_
              rotate_left
              ·go_simp
               rfl
              refine hK.out _ _ ⟨((cell_far (p := ⟨gb155, _, none⟩) (by first | exact Nat.ne_of_lt (Nat.lt_of_lt_of_le (by have := World.block_lt_of_cell? _ _ hw152_0; first | rwa [add_block] at this | exact this) GW155.out) | (rw [add_block]; exact Nat.ne_of_lt (Nat.lt_of_lt_of_le (by have := World.block_lt_of_cell? _ _ hw152_0; first | rwa [add_block] at this | exact this) GW155.out)) | (show (Addr.add _ _).block ≠ _; rw [add_block]; exact Nat.ne_of_lt (Nat.lt_of_lt_of_le (by have := World.block_lt_of_cell? _ _ hw152_0; first | rwa [add_block] at this | exact this) GW155.out)) | (dsimp only; exact Nat.ne_of_lt (Nat.lt_of_lt_of_le (by have := World.block_lt_of_cell? _ _ hw152_0; first | rwa [add_block] at this | exact this) GW155.out))) _).trans (((cell_far (p := ⟨gb155, _, none⟩) (by first | exact Nat.ne_of_lt (Nat.lt_of_lt_of_le (by have := World.block_lt_of_cell? _ _ hw152_0; first | rwa [add_block] at this | exact this) GW155.out) | (rw [add_block]; exact Nat.ne_of_lt (Nat.lt_of_lt_of_le (by have := World.block_lt_of_cell? _ _ hw152_0; first | rwa [add_block] at this | exact this) GW155.out)) | (show (Addr.add _ _).block ≠ _; rw [add_block]; exact Nat.ne_of_lt (Nat.lt_of_lt_of_le (by have := World.block_lt_of_cell? _ _ hw152_0; first | rwa [add_block] at this | exact this) GW155.out)) | (dsimp only; exact Nat.ne_of_lt (Nat.lt_of_lt_of_le (by have := World.block_lt_of_cell? _ _ hw152_0; first | rwa [add_block] at this | exact this) GW155.out))) _).trans (hHeld.1)))), ((cell_far (p := ⟨gb155, _, none⟩) (by first | exact Nat.ne_of_lt (Nat.lt_of_lt_of_le (by have := World.block_lt_of_cell? _ _ hw152_1; first | rwa [add_block] at this | exact this) GW155.out) | (rw [add_block]; exact Nat.ne_of_lt (Nat.lt_of_lt_of_le (by have := World.block_lt_of_cell? _ _ hw152_1; first | rwa [add_block] at this | exact this) GW155.out)) | (show (Addr.add _ _).block ≠ _; rw [add_block]; exact Nat.ne_of_lt (Nat.lt_of_lt_of_le (by have := World.block_lt_of_cell? _ _ hw152_1; first | rwa [add_block] at this | exact this) GW155.out)) | (dsimp only; exact Nat.ne_of_lt (Nat.lt_of_lt_of_le (by have := World.block_lt_of_cell? _ _ hw152_1; first | rwa [add_block] at this | exact this) GW155.out))) _).trans (((cell_far (p := ⟨gb155, _, none⟩) (by first | exact Nat.ne_of_lt (Nat.lt_of_lt_of_le (by have := World.block_lt_of_cell? _ _ hw152_1; first | rwa [add_block] at this | exact this) GW155.out) | (rw [add_block]; exact Nat.ne_of_lt (Nat.lt_of_lt_of_le (by have := World.block_lt_of_cell? _ _ hw152_1; first | rwa [add_block] at this | exact this) GW155.out)) | (show (Addr.add _ _).block ≠ _; rw [add_block]; exact Nat.ne_of_lt (Nat.lt_of_lt_of_le (by have := World.block_lt_of_cell? _ _ hw152_1; first | rwa [add_block] at this | exact this) GW155.out)) | (dsimp only; exact Nat.ne_of_lt (Nat.lt_of_lt_of_le (by have := World.block_lt_of_cell? _ _ hw152_1; first | rwa [add_block] at this | exact this) GW155.out))) _).trans (hHeld.2.1)))), ((cell_far (p := ⟨gb155, _, none⟩) (by first | exact Nat.ne_of_lt (Nat.lt_of_lt_of_le (by have := World.block_lt_of_cell? _ _ hw153_0; first | rwa [add_block] at this | exact this) GW155.out) | (rw [add_block]; exact Nat.ne_of_lt (Nat.lt_of_lt_of_le (by have := World.block_lt_of_cell? _ _ hw153_0; first | rwa [add_block] at this | exact this) GW155.out)) | (show (Addr.add _ _).block ≠ _; rw [add_block]; exact Nat.ne_of_lt (Nat.lt_of_lt_of_le (by have := World.block_lt_of_cell? _ _ hw153_0; first | rwa [add_block] at this | exact this) GW155.out)) | (dsimp only; exact Nat.ne_of_lt (Nat.lt_of_lt_of_le (by have := World.block_lt_of_cell? _ _ hw153_0; first | rwa [add_block] at this | exact this) GW155.out))) _).trans (((cell_far (p := ⟨gb155, _, none⟩) (by first | exact Nat.ne_of_lt (Nat.lt_of_lt_of_le (by have := World.block_lt_of_cell? _ _ hw153_0; first | rwa [add_block] at this | exact this) GW155.out) | (rw [add_block]; exact Nat.ne_of_lt (Nat.lt_of_lt_of_le (by have := World.block_lt_of_cell? _ _ hw153_0; first | rwa [add_block] at this | exact this) GW155.out)) | (show (Addr.add _ _).block ≠ _; rw [add_block]; exact Nat.ne_of_lt (Nat.lt_of_lt_of_le (by have := World.block_lt_of_cell? _ _ hw153_0; first | rwa [add_block] at this | exact this) GW155.out)) | (dsimp only; exact Nat.ne_of_lt (Nat.lt_of_lt_of_le (by have := World.block_lt_of_cell? _ _ hw153_0; first | rwa [add_block] at this | exact this) GW155.out))) _).trans (hHeld.2.2.1)))), ((cell_far (p := ⟨gb155, _, none⟩) (by first | exact Nat.ne_of_lt (Nat.lt_of_lt_of_le (by have := World.block_lt_of_cell? _ _ hw153_1; first | rwa [add_block] at this | exact this) GW155.out) | (rw [add_block]; exact Nat.ne_of_lt (Nat.lt_of_lt_of_le (by have := World.block_lt_of_cell? _ _ hw153_1; first | rwa [add_block] at this | exact this) GW155.out)) | (show (Addr.add _ _).block ≠ _; rw [add_block]; exact Nat.ne_of_lt (Nat.lt_of_lt_of_le (by have := World.block_lt_of_cell? _ _ hw153_1; first | rwa [add_block] at this | exact this) GW155.out)) | (dsimp only; exact Nat.ne_of_lt (Nat.lt_of_lt_of_le (by have := World.block_lt_of_cell? _ _ hw153_1; first | rwa [add_block] at this | exact this) GW155.out))) _).trans (((cell_far (p := ⟨gb155, _, none⟩) (by first | exact Nat.ne_of_lt (Nat.lt_of_lt_of_le (by have := World.block_lt_of_cell? _ _ hw153_1; first | rwa [add_block] at this | exact this) GW155.out) | (rw [add_block]; exact Nat.ne_of_lt (Nat.lt_of_lt_of_le (by have := World.block_lt_of_cell? _ _ hw153_1; first | rwa [add_block] at this | exact this) GW155.out)) | (show (Addr.add _ _).block ≠ _; rw [add_block]; exact Nat.ne_of_lt (Nat.lt_of_lt_of_le (by have := World.block_lt_of_cell? _ _ hw153_1; first | rwa [add_block] at this | exact this) GW155.out)) | (dsimp only; exact Nat.ne_of_lt (Nat.lt_of_lt_of_le (by have := World.block_lt_of_cell? _ _ hw153_1; first | rwa [add_block] at this | exact this) GW155.out))) _).trans (hHeld.2.2.2))))⟩ (fun hHeld => ?_)
              clear hK K
              refine done_ (done_of HT_.out (by kernel_rfl)) ?_
              have hnb36 := NB155_154.out
              have hnc36 := NB154_155.out
              have hcz37_0 : w31.cell? ⟨gb155, 0, none⟩ = some (.int .i64 0) := (blk_cell BK155.out 0).trans rfl
              have hcz37_1 : w31.cell? ⟨gb155, 1, none⟩ = some (.int .u32 0) := (blk_cell BK155.out 1).trans rfl
              have hfz37_0 := blk_frozen BK155.out 0
              have hfz37_1 := blk_frozen BK155.out 1
              have hcz38_0 : w31.cell? ⟨gb154, 0, none⟩ = some (.int .i64 0) := (blk_cell BK154.out 0).trans rfl
              have hcz38_1 : w31.cell? ⟨gb154, 1, none⟩ = some (.int .u32 0) := (blk_cell BK154.out 1).trans rfl
              have hfz38_0 := blk_frozen BK154.out 0
              have hfz38_1 := blk_frozen BK154.out 1
              try go_wp2_with (first | ((with_reducible refine gate_callee (f := 56) rfl ?_); refine goesL_ (some 77) rfl rfl Try.func56 (by kernel_rfl) rfl #[.int .u32 ((rd_T38 l0 x7_2).f1), .int .u32 ((rd_T38 l0 (ji17)).f1)] rfl (by (try simp only [List.map_toArray, List.map_cons, List.map_nil]); first | done | (simp only [hji17]; rfl) | rfl | (simp only [List.length_drop, List.length_take]; rfl)) ?_; (with_reducible refine (levyref17_Sub.calls k2 ((rd_T38 l0 x7_2).f1) ((rd_T38 l0 (ji17)).f1) t156 _ A20.out).mono ?_); rintro e w' ⟨rfl, ⟨nd, rfl⟩⟩; refine ⟨_, rfl, ?_⟩) | ((with_reducible refine gate_callee (f := 14) rfl ?_); refine goesL_ (some 82) rfl rfl Try.func14 (by kernel_rfl) rfl #[.int .i64 (wrap64 (a1 - ((rd_T38 l0 (ji17)).f0)))] rfl (by (try simp only [List.map_toArray, List.map_cons, List.map_nil]); first | done | (simp only [hji17]; rfl) | rfl | (simp only [List.length_drop, List.length_take]; rfl)) ?_; (with_reducible refine (levyref17_Whole.calls (wrap64 (a1 - ((rd_T38 l0 (ji17)).f0))) t157 _ A21.out).mono ?_); rintro e w' ⟨rfl, ⟨nd, rfl⟩⟩; refine ⟨_, rfl, ?_⟩) | ((with_reducible refine gate_callee (f := 14) rfl ?_); refine goesL_ (some 88) rfl rfl Try.func14 (by kernel_rfl) rfl #[.int .i64 (wrap64 (((rd_T38 l0 x7_2).f0) - ((rd_T38 l0 (ji17)).f0)))] rfl (by (try simp only [List.map_toArray, List.map_cons, List.map_nil]); first | done | (simp only [hji17]; rfl) | rfl | (simp only [List.length_drop, List.length_take]; rfl)) ?_; (with_reducible refine (levyref17_Whole.calls (wrap64 (((rd_T38 l0 x7_2).f0) - ((rd_T38 l0 (ji17)).f0))) t158 _ A22.out).mono ?_); rintro e w' ⟨rfl, ⟨nd, rfl⟩⟩; refine ⟨_, rfl, ?_⟩) | ((with_reducible refine gate_callee (f := 57) rfl ?_); refine goesL_ (some 91) rfl rfl Try.func57 (by kernel_rfl) rfl #[.int .u32 t157, .int .u32 t158] rfl agx ?_; (with_reducible refine (levyref17_Div.calls k2 t157 t158 t159 _ A23.out).mono ?_); rintro e w' ⟨rfl, ⟨nd, rfl⟩⟩; refine ⟨_, rfl, ?_⟩) | ((with_reducible refine gate_callee (f := 58) rfl ?_); refine goesL_ (some 93) rfl rfl Try.func58 (by kernel_rfl) rfl #[.int .u32 t156] rfl agx ?_; (with_reducible refine (levyref17_Finite.calls t156 true _ A24.out).mono ?_); rintro e w' ⟨rfl, ⟨nd, rfl⟩⟩; refine ⟨_, rfl, ?_⟩) | ((with_reducible refine gate_callee (f := 59) rfl ?_); refine goesL_ (some 99) rfl rfl Try.func59 (by kernel_rfl) rfl #[.int .u32 t156, .int .u32 t159] rfl agx ?_; (with_reducible refine (levyref17_Mul.calls t156 t159 t161 _ A26.out).mono ?_); rintro e w' ⟨rfl, ⟨nd, rfl⟩⟩; refine ⟨_, rfl, ?_⟩) | ((with_reducible refine gate_callee (f := 60) rfl ?_); refine goesL_ (some 103) rfl rfl Try.func60 (by kernel_rfl) rfl #[.int .u32 ((rd_T38 l0 (ji17)).f1), .int .u32 t161] rfl (by (try simp only [List.map_toArray, List.map_cons, List.map_nil]); first | done | (simp only [hji17]; rfl) | rfl | (simp only [List.length_drop, List.length_take]; rfl)) ?_; (with_reducible refine (levyref17_Add.calls k2 ((rd_T38 l0 (ji17)).f1) t161 t162 _ A27.out).mono ?_); rintro e w' ⟨rfl, ⟨nd, rfl⟩⟩; refine ⟨_, rfl, ?_⟩))
              go_ret2
              exact ⟨by first | rfl | (simp [errW_none, errW_some] <;> rfl) | (simp only [← hji17]; first | rfl | (simp [errW_none, errW_some] <;> rfl)) | (simp [*, errW_none, errW_some] <;> rfl), blx⟩
             ·replace c25 := Bool.eq_false_iff.mpr c25
              subst c25
              have H1 : (some (t156, 0)) = some (r1, r2) := by rw [if_neg (show ¬ (false = true) by decide)] at H; exact H
              clear H
              have H := H1
              clear H1
              simp only [Option.some.injEq, Prod.mk.injEq] at H
              obtain ⟨rfl, rfl⟩ := H
              have p149 : 0 ≤ (x7_2 : Int) := odx
              have q149 : x7_2 < (l0.length : Int) := odx
              obtain ⟨ad149, e149, hx149_0, hx149_1⟩ := at_T38 HR0.out x7_2 p149 q149
              cases e149
              replace hx149_0 := (HB.out.cell (World.block_lt_of_cell? w _ hx149_0)).trans hx149_0
              replace hx149_1 := (HB.out.cell (World.block_lt_of_cell? w _ hx149_1)).trans hx149_1
              replace p149 := eq_true p149
              replace q149 := eq_true q149
              have p150 : 0 ≤ (x7_2 : Int) := odx
              have q150 : x7_2 < (l0.length : Int) := odx
              obtain ⟨ad150, e150, hx150_0, hx150_1⟩ := at_T38 HR0.out x7_2 p150 q150
              obtain rfl : ad149 = ad150 := (by injection e150)
              replace hx150_0 := (HB.out.cell (World.block_lt_of_cell? w _ hx150_0)).trans hx150_0
              replace hx150_1 := (HB.out.cell (World.block_lt_of_cell? w _ hx150_1)).trans hx150_1
              replace p150 := eq_true p150
              replace q150 := eq_true q150
              try go_wp2
              have n0_ := Aside0.mk (below_drew1 HB.out)
              clear HB
              have HB := n0_
              clear n0_
              have p152 : 0 ≤ ((ji17) : Int) := odx
              have q152 : (ji17) < (l0.length : Int) := odx
              obtain ⟨ad152, e152, hx152_0, hx152_1⟩ := at_T38 HR0.out (ji17) p152 q152
              have hw152_1 := hx152_1
              have hw152_0 := hx152_0
              obtain rfl : ad149 = ad152 := (by injection e152)
              replace hx152_0 := (HB.out.cell (World.block_lt_of_cell? w _ hx152_0)).trans hx152_0
              replace hx152_1 := (HB.out.cell (World.block_lt_of_cell? w _ hx152_1)).trans hx152_1
              replace p152 := eq_true p152
              replace q152 := eq_true q152
              have p153 : 0 ≤ (x7_2 : Int) := odx
              have q153 : x7_2 < (l0.length : Int) := odx
              obtain ⟨ad153, e153, hx153_0, hx153_1⟩ := at_T38 HR0.out x7_2 p153 q153
              have hw153_1 := hx153_1
              have hw153_0 := hx153_0
              obtain rfl : ad149 = ad153 := (by injection e153)
              replace hx153_0 := (HB.out.cell (World.block_lt_of_cell? w _ hx153_0)).trans hx153_0
              replace hx153_1 := (HB.out.cell (World.block_lt_of_cell? w _ hx153_1)).trans hx153_1
              replace p153 := eq_true p153
              replace q153 := eq_true q153
              refine start_ (n := 13) (S := fun w' => w'.cell? (ad149.add (((ji17)).toNat * 2)) = some (.int .i64 ((rd_T38 l0 (ji17)).f0)) ∧ w'.cell? ⟨(ad149.add (((ji17)).toNat * 2)).block, (ad149.add (((ji17)).toNat * 2)).off + 1, none⟩ = some (.int .u32 ((rd_T38 l0 (ji17)).f1)) ∧ w'.cell? (ad149.add ((x7_2).toNat * 2)) = some (.int .i64 ((rd_T38 l0 x7_2).f0)) ∧ w'.cell? ⟨(ad149.add ((x7_2).toNat * 2)).block, (ad149.add ((x7_2).toNat * 2)).off + 1, none⟩ = some (.int .u32 ((rd_T38 l0 x7_2).f1))) (ds := []) #[false, false, false, false, false, false, false, false, false, false, false, false, false] (by kernel_rfl) rfl rfl ⟨((HB.out.cell (World.block_lt_of_cell? w _ hw152_0)).trans hw152_0), ((HB.out.cell (World.block_lt_of_cell? w _ hw152_1)).trans hw152_1), ((HB.out.cell (World.block_lt_of_cell? w _ hw153_0)).trans hw153_0), ((HB.out.cell (World.block_lt_of_cell? w _ hw153_1)).trans hw153_1)⟩ (fun hHeld => ?_); refine with_tabW levyref17_At.tab11 levyref17_At.bits11 (fun HT_ HW_ => ?_)
              generalize wr.drew = w39 at HB hx152_0 hx152_1 hx153_0 hx153_1 hHeld ⊢
              refine pure_ (i := 0) (N := some 64) (v := ?_) (a' := ?_) #[true, false, false, false, false, false, false, false, false, false, false, false, false] rfl rfl (any_of HT_.out (by kernel_rfl)) (fun _ _ _ h => h) (Or.inl ⟨by rfl, ?_⟩) ?_ ?_
              rotate_left
              ·intro w'
               go_simp
               with_reducible rfl
              rotate_left
              ·simp only [Act.put, List.setIfInBounds_toArray, List.set_cons_zero, List.set_cons_succ, i64_w, i32_w]
               rfl
              refine pure_ (i := 1) (N := some 65) (v := ?_) (a' := ?_) #[true, true, false, false, false, false, false, false, false, false, false, false, false] rfl rfl (any_of HT_.out (by kernel_rfl)) (fun _ _ _ h => h) (Or.inl ⟨by rfl, ?_⟩) ?_ ?_
              rotate_left
              ·intro w'
               go_simp
               with_reducible rfl
              rotate_left
              ·simp only [Act.put, List.setIfInBounds_toArray, List.set_cons_zero, List.set_cons_succ, i64_w, i32_w]
               rfl
              refine pure_ (i := 2) (N := some 66) (v := ?_) (a' := ?_) #[true, true, true, false, false, false, false, false, false, false, false, false, false] rfl rfl (any_of HT_.out (by kernel_rfl)) (fun _ _ _ h => h) (Or.inl ⟨by rfl, ?_⟩) ?_ ?_
              rotate_left
              ·intro w'
               go_simp
               with_reducible rfl
              rotate_left
              ·simp only [Act.put, List.setIfInBounds_toArray, List.set_cons_zero, List.set_cons_succ, i64_w, i32_w]
               rfl
              refine pure_ (i := 3) (N := some 67) (v := ?_) (a' := ?_) #[true, true, true, true, false, false, false, false, false, false, false, false, false] rfl rfl (any_of HT_.out (by kernel_rfl)) (fun _ _ _ h => h) (Or.inl ⟨by rfl, ?_⟩) ?_ ?_
              rotate_left
              ·intro w'
               go_simp
               with_reducible rfl
              rotate_left
              ·simp only [Act.put, List.setIfInBounds_toArray, List.set_cons_zero, List.set_cons_succ, i64_w, i32_w]
               rfl
              refine pure_ (i := 5) (N := some 69) (v := ?_) (a' := ?_) #[true, true, true, true, false, true, false, false, false, false, false, false, false] rfl rfl (any_of HT_.out (by kernel_rfl)) (fun _ _ _ h => h) (Or.inl ⟨by rfl, ?_⟩) ?_ ?_
              rotate_left
              ·intro w'
               go_simp
               with_reducible rfl
              rotate_left
              ·simp only [Act.put, List.setIfInBounds_toArray, List.set_cons_zero, List.set_cons_succ, i64_w, i32_w]
               rfl
              refine pure_ (i := 6) (N := some 70) (v := ?_) (a' := ?_) #[true, true, true, true, false, true, true, false, false, false, false, false, false] rfl rfl (any_of HT_.out (by kernel_rfl)) (fun _ _ _ h => h) (Or.inl ⟨by rfl, ?_⟩) ?_ ?_
              rotate_left
              ·intro w'
               go_simp
               with_reducible rfl
              rotate_left
              ·simp only [Act.put, List.setIfInBounds_toArray, List.set_cons_zero, List.set_cons_succ, i64_w, i32_w]
               rfl
              refine pure_ (i := 7) (N := some 71) (v := ?_) (a' := ?_) #[true, true, true, true, false, true, true, true, false, false, false, false, false] rfl rfl (any_of HT_.out (by kernel_rfl)) (fun _ _ _ h => h) (Or.inl ⟨by rfl, ?_⟩) ?_ ?_
              rotate_left
              ·intro w'
               go_simp
               with_reducible rfl
              rotate_left
              ·simp only [Act.put, List.setIfInBounds_toArray, List.set_cons_zero, List.set_cons_succ, i64_w, i32_w]
               rfl
              refine take_ (i := 4) (N := some 68) (v := ?_) (a' := ?_) #[true, true, true, true, true, true, true, true, false, false, false, false, false] rfl rfl (take_ofW HT_.out HW_.out (by kernel_rfl)) (fun _ _ _ h => h) (Or.inl ⟨by rfl, ?_⟩) hHeld ?_ ?_
              rotate_left
              ·rintro w' ⟨s0, s1, s2, s3⟩
               go_simp
               with_reducible rfl
              rotate_left
              ·simp only [Act.put, List.setIfInBounds_toArray, List.set_cons_zero, List.set_cons_succ, i64_w, i32_w]
               rfl
              refine take_ (i := 8) (N := some 72) (v := ?_) (a' := ?_) #[true, true, true, true, true, true, true, true, true, false, false, false, false] rfl rfl (take_ofW HT_.out HW_.out (by kernel_rfl)) (fun _ _ _ h => h) (Or.inl ⟨by rfl, ?_⟩) hHeld ?_ ?_
              rotate_left
              ·rintro w' ⟨s0, s1, s2, s3⟩
               go_simp
               with_reducible rfl
              rotate_left
              ·simp only [Act.put, List.setIfInBounds_toArray, List.set_cons_zero, List.set_cons_succ, i64_w, i32_w]
               rfl
              refine join_ (σ := Nat × Nat) 2 #[true, true, true, true, true, true, true, true, true, true, true, false, false] (fun s_ => [(8, .pointer (some ⟨s_.1, 0, none⟩)), (9, .pointer (some ⟨s_.2, 0, none⟩))]) (fun s_ w' => (w'.cell? (ad149.add (((ji17)).toNat * 2)) = some (.int .i64 ((rd_T38 l0 (ji17)).f0)) ∧ w'.cell? ⟨(ad149.add (((ji17)).toNat * 2)).block, (ad149.add (((ji17)).toNat * 2)).off + 1, none⟩ = some (.int .u32 ((rd_T38 l0 (ji17)).f1)) ∧ w'.cell? (ad149.add ((x7_2).toNat * 2)) = some (.int .i64 ((rd_T38 l0 x7_2).f0)) ∧ w'.cell? ⟨(ad149.add ((x7_2).toNat * 2)).block, (ad149.add ((x7_2).toNat * 2)).off + 1, none⟩ = some (.int .u32 ((rd_T38 l0 x7_2).f1))) ∧ (w'.heap[s_.1]? = some (.cells #[.int .i64 0, .int .u32 0] 38 (0, 0))) ∧ (w'.heap[s_.2]? = some (.cells #[.int .i64 0, .int .u32 0] 38 (0, 0))) ∧ (w.heap.size ≤ s_.1) ∧ (w.heap.size ≤ s_.1) ∧ (s_.2 ≠ s_.1) ∧ (s_.1 ≠ s_.2) ∧ (w.heap.size ≤ s_.2) ∧ (w.heap.size ≤ s_.2) ∧ (Below w.heap.size w w')) ?_ ?_
              rotate_left
              ·intro hCont
               refine two_ (i := 9) (j := 10) (Ni := some 8) (Nj := some 9) #[true, true, true, true, true, true, true, true, true, true, false, false, false] #[true, true, true, true, true, true, true, true, true, false, true, false, false] rfl rfl rfl rfl (two_of HT_.out (by kernel_rfl)) (by decide) (by decide) (fun K hK => ?_) (fun K hK => ?_)
               ·skip
                refine box_step ?hg (N := 8) ?hd (cs := #[.int .i64 0, .int .u32 0]) (t := 38) ?hr ?_; (case hd => rfl); (case hg => rfl); (case hr => first | (go_simp; done) | (go_simp; rfl))
                intro gb154 hg w40 hbox hb
                have n0_ := Aside0.mk (below_step blx hb)
                have n1_ := Aside0.mk (hbox)
                have n2_ := Aside0.mk ((by rw [hg]; exact (below_size blx) : w.heap.size ≤ gb154))
                have n3_ := Aside0.mk ((by rw [hg]; exact (below_size blx) : w.heap.size ≤ gb154))
                clear HB
                have HB := n0_
                have BK154 := n1_
                have GW154 := n2_
                have GE154 := n3_
                clear n0_ n1_ n2_ n3_
                clear hb hbox hg
                refine hK.out _ _ ⟨((HB.out.cell (World.block_lt_of_cell? w _ hw152_0)).trans hw152_0), ((HB.out.cell (World.block_lt_of_cell? w _ hw152_1)).trans hw152_1), ((HB.out.cell (World.block_lt_of_cell? w _ hw153_0)).trans hw153_0), ((HB.out.cell (World.block_lt_of_cell? w _ hw153_1)).trans hw153_1)⟩ (fun hHeld => ?_)
                clear hK K
                refine norm_ (a' := ?_) ?_ ?_
                rotate_left
                ·show Act.put _ (some 8) _ = _
                 simp only [Act.put, List.setIfInBounds_toArray, List.set_cons_zero, List.set_cons_succ, i64_w, i32_w]
                 rfl
                refine one_ (i := 10) (N := some 9) #[true, true, true, true, true, true, true, true, true, true, true, false, false] rfl rfl (one_of HT_.out (by kernel_rfl)) (by decide) (fun K hK => ?_)
                refine box_step ?hg (N := 9) ?hd (cs := #[.int .i64 0, .int .u32 0]) (t := 38) ?hr ?_; (case hd => rfl); (case hg => rfl); (case hr => first | (go_simp; done) | (go_simp; rfl))
                intro gb155 hg w41 hbox hb
                have n0_ := Aside0.mk (blk_below (g := gb154) (o := .cells #[.int .i64 0, .int .u32 0] 38 (0, 0)) bkx hb)
                have n1_ := Aside0.mk (below_step blx hb)
                have n2_ := Aside0.mk (hbox)
                have n3_ := Aside0.mk ((by rw [hg]; exact (below_size blx) : w.heap.size ≤ gb155))
                have n4_ := Aside0.mk ((by rw [hg]; exact (below_size blx) : w.heap.size ≤ gb155))
                have n5_ := Aside0.mk ((by rw [hg]; exact Nat.ne_of_lt (blk_lt (g := gb154) (o := .cells #[.int .i64 0, .int .u32 0] 38 (0, 0)) bkx) : gb154 ≠ gb155))
                have n6_ := Aside0.mk ((by rw [hg]; exact Nat.ne_of_gt (blk_lt (g := gb154) (o := .cells #[.int .i64 0, .int .u32 0] 38 (0, 0)) bkx) : gb155 ≠ gb154))
                clear BK154
                clear HB
                have BK154 := n0_
                have HB := n1_
                have BK155 := n2_
                have GW155 := n3_
                have GE155 := n4_
                have NB154_155 := n5_
                have NB155_154 := n6_
                clear n0_ n1_ n2_ n3_ n4_ n5_ n6_
                clear hb hbox hg
                refine hK.out _ _ ⟨((HB.out.cell (World.block_lt_of_cell? w _ hw152_0)).trans hw152_0), ((HB.out.cell (World.block_lt_of_cell? w _ hw152_1)).trans hw152_1), ((HB.out.cell (World.block_lt_of_cell? w _ hw153_0)).trans hw153_0), ((HB.out.cell (World.block_lt_of_cell? w _ hw153_1)).trans hw153_1)⟩ (fun hHeld => ?_)
                clear hK K
                refine norm_ (a' := ?_) ?_ ?_
                rotate_left
                ·show Act.put _ (some 9) _ = _
                 simp only [Act.put, List.setIfInBounds_toArray, List.set_cons_zero, List.set_cons_succ, i64_w, i32_w]
                 rfl
                exact norm_ (by simp only [putAll, Act.put, List.setIfInBounds_toArray, List.set_cons_zero, List.set_cons_succ]) (hCont (gb154, gb155) _ ⟨hHeld, bkx, bkx, GW154.out, GE154.out, NB155_154.out, NB154_155.out, GW155.out, GE155.out, blx⟩)
               ·skip
                refine box_step ?hg (N := 9) ?hd (cs := #[.int .i64 0, .int .u32 0]) (t := 38) ?hr ?_; (case hd => rfl); (case hg => rfl); (case hr => first | (go_simp; done) | (go_simp; rfl))
                intro gb155 hg w40 hbox hb
                have n0_ := Aside0.mk (below_step blx hb)
                have n1_ := Aside0.mk (hbox)
                have n2_ := Aside0.mk ((by rw [hg]; exact (below_size blx) : w.heap.size ≤ gb155))
                have n3_ := Aside0.mk ((by rw [hg]; exact (below_size blx) : w.heap.size ≤ gb155))
                clear HB
                have HB := n0_
                have BK155 := n1_
                have GW155 := n2_
                have GE155 := n3_
                clear n0_ n1_ n2_ n3_
                clear hb hbox hg
                refine hK.out _ _ ⟨((HB.out.cell (World.block_lt_of_cell? w _ hw152_0)).trans hw152_0), ((HB.out.cell (World.block_lt_of_cell? w _ hw152_1)).trans hw152_1), ((HB.out.cell (World.block_lt_of_cell? w _ hw153_0)).trans hw153_0), ((HB.out.cell (World.block_lt_of_cell? w _ hw153_1)).trans hw153_1)⟩ (fun hHeld => ?_)
                clear hK K
                refine norm_ (a' := ?_) ?_ ?_
                rotate_left
                ·show Act.put _ (some 9) _ = _
                 simp only [Act.put, List.setIfInBounds_toArray, List.set_cons_zero, List.set_cons_succ, i64_w, i32_w]
                 rfl
                refine one_ (i := 9) (N := some 8) #[true, true, true, true, true, true, true, true, true, true, true, false, false] rfl rfl (one_of HT_.out (by kernel_rfl)) (by decide) (fun K hK => ?_)
                refine box_step ?hg (N := 8) ?hd (cs := #[.int .i64 0, .int .u32 0]) (t := 38) ?hr ?_; (case hd => rfl); (case hg => rfl); (case hr => first | (go_simp; done) | (go_simp; rfl))
                intro gb154 hg w41 hbox hb
                have n0_ := Aside0.mk (blk_below (g := gb155) (o := .cells #[.int .i64 0, .int .u32 0] 38 (0, 0)) bkx hb)
                have n1_ := Aside0.mk (below_step blx hb)
                have n2_ := Aside0.mk (hbox)
                have n3_ := Aside0.mk ((by rw [hg]; exact (below_size blx) : w.heap.size ≤ gb154))
                have n4_ := Aside0.mk ((by rw [hg]; exact (below_size blx) : w.heap.size ≤ gb154))
                have n5_ := Aside0.mk ((by rw [hg]; exact Nat.ne_of_lt (blk_lt (g := gb155) (o := .cells #[.int .i64 0, .int .u32 0] 38 (0, 0)) bkx) : gb155 ≠ gb154))
                have n6_ := Aside0.mk ((by rw [hg]; exact Nat.ne_of_gt (blk_lt (g := gb155) (o := .cells #[.int .i64 0, .int .u32 0] 38 (0, 0)) bkx) : gb154 ≠ gb155))
                clear BK155
                clear HB
                have BK155 := n0_
                have HB := n1_
                have BK154 := n2_
                have GW154 := n3_
                have GE154 := n4_
                have NB155_154 := n5_
                have NB154_155 := n6_
                clear n0_ n1_ n2_ n3_ n4_ n5_ n6_
                clear hb hbox hg
                refine hK.out _ _ ⟨((HB.out.cell (World.block_lt_of_cell? w _ hw152_0)).trans hw152_0), ((HB.out.cell (World.block_lt_of_cell? w _ hw152_1)).trans hw152_1), ((HB.out.cell (World.block_lt_of_cell? w _ hw153_0)).trans hw153_0), ((HB.out.cell (World.block_lt_of_cell? w _ hw153_1)).trans hw153_1)⟩ (fun hHeld => ?_)
                clear hK K
                refine norm_ (a' := ?_) ?_ ?_
                rotate_left
                ·show Act.put _ (some 8) _ = _
                 simp only [Act.put, List.setIfInBounds_toArray, List.set_cons_zero, List.set_cons_succ, i64_w, i32_w]
                 rfl
                exact norm_ (by simp only [putAll, Act.put, List.setIfInBounds_toArray, List.set_cons_zero, List.set_cons_succ]) (hCont (gb154, gb155) _ ⟨hHeld, bkx, bkx, GW154.out, GE154.out, NB155_154.out, NB154_155.out, GW155.out, GE155.out, blx⟩)
              rintro ⟨gb154, gb155⟩ w42 ⟨hS_, h0_, h1_, h2_, h3_, h4_, h5_, h6_, h7_, h8_⟩
              have n0_ : Aside0 (w42.heap[gb154]? = some (.cells #[.int .i64 0, .int .u32 0] 38 (0, 0))) := ⟨h0_⟩
              have n1_ : Aside0 (w42.heap[gb155]? = some (.cells #[.int .i64 0, .int .u32 0] 38 (0, 0))) := ⟨h1_⟩
              have n2_ : Aside0 (w.heap.size ≤ gb154) := ⟨h2_⟩
              have n3_ : Aside0 (w.heap.size ≤ gb154) := ⟨h3_⟩
              have n4_ : Aside0 (gb155 ≠ gb154) := ⟨h4_⟩
              have n5_ : Aside0 (gb154 ≠ gb155) := ⟨h5_⟩
              have n6_ : Aside0 (w.heap.size ≤ gb155) := ⟨h6_⟩
              have n7_ : Aside0 (w.heap.size ≤ gb155) := ⟨h7_⟩
              have n8_ : Aside0 (Below w.heap.size w w42) := ⟨h8_⟩
              clear HB
              clear h0_ h1_ h2_ h3_ h4_ h5_ h6_ h7_ h8_
              have BK154 := n0_
              have BK155 := n1_
              have GW154 := n2_
              have GE154 := n3_
              have NB155_154 := n4_
              have NB154_155 := n5_
              have GW155 := n6_
              have GE155 := n7_
              have HB := n8_
              clear n0_ n1_ n2_ n3_ n4_ n5_ n6_ n7_ n8_
              have hHeld : w42.cell? (ad149.add (((ji17)).toNat * 2)) = some (.int .i64 ((rd_T38 l0 (ji17)).f0)) ∧ w42.cell? ⟨(ad149.add (((ji17)).toNat * 2)).block, (ad149.add (((ji17)).toNat * 2)).off + 1, none⟩ = some (.int .u32 ((rd_T38 l0 (ji17)).f1)) ∧ w42.cell? (ad149.add ((x7_2).toNat * 2)) = some (.int .i64 ((rd_T38 l0 x7_2).f0)) ∧ w42.cell? ⟨(ad149.add ((x7_2).toNat * 2)).block, (ad149.add ((x7_2).toNat * 2)).off + 1, none⟩ = some (.int .u32 ((rd_T38 l0 x7_2).f1)) := hS_
              refine norm_ (a' := ?_) ?_ ?_
              rotate_left
              ·simp only [putAll, Act.put, List.setIfInBounds_toArray, List.set_cons_zero, List.set_cons_succ]
               rfl
              refine one_ (i := 11) (N := none) #[true, true, true, true, true, true, true, true, true, true, true, true, false] rfl rfl (one_of HT_.out (by kernel_rfl)) (by decide) (fun K hK => ?_)
              have hs43 : w42.cell? ⟨gb154, 0, none⟩ = some (.int .i64 0) := (blk_cell BK154.out 0).trans rfl
              have hfs43 := blk_frozen BK154.out 0
              have hns43_1 := NB155_154.out
              have hms43_1 := NB154_155.out
              have hs44 : w42.cell? ⟨gb154, 1, none⟩ = some (.int .u32 0) := (blk_cell BK154.out 1).trans rfl
              have hfs44 := blk_frozen BK154.out 1
              have hns44_1 := NB155_154.out
              have hms44_1 := NB154_155.out
              refine skip_ (w1 := ?_) (by rfl) rfl ?_ ?_
              rotate_left
              ·go_simp
               rfl
              refine hK.out _ _ ⟨((cell_far (p := ⟨gb154, _, none⟩) (by first | exact Nat.ne_of_lt (Nat.lt_of_lt_of_le (by have := World.block_lt_of_cell? _ _ hw152_0; first | rwa [add_block] at this | exact this) GW154.out) | (rw [add_block]; exact Nat.ne_of_lt (Nat.lt_of_lt_of_le (by have := World.block_lt_of_cell? _ _ hw152_0; first | rwa [add_block] at this | exact this) GW154.out)) | (show (Addr.add _ _).block ≠ _; rw [add_block]; exact Nat.ne_of_lt (Nat.lt_of_lt_of_le (by have := World.block_lt_of_cell? _ _ hw152_0; first | rwa [add_block] at this | exact this) GW154.out)) | (dsimp only; exact Nat.ne_of_lt (Nat.lt_of_lt_of_le (by have := World.block_lt_of_cell? _ _ hw152_0; first | rwa [add_block] at this | exact this) GW154.out))) _).trans (((cell_far (p := ⟨gb154, _, none⟩) (by first | exact Nat.ne_of_lt (Nat.lt_of_lt_of_le (by have := World.block_lt_of_cell? _ _ hw152_0; first | rwa [add_block] at this | exact this) GW154.out) | (rw [add_block]; exact Nat.ne_of_lt (Nat.lt_of_lt_of_le (by have := World.block_lt_of_cell? _ _ hw152_0; first | rwa [add_block] at this | exact this) GW154.out)) | (show (Addr.add _ _).block ≠ _; rw [add_block]; exact Nat.ne_of_lt (Nat.lt_of_lt_of_le (by have := World.block_lt_of_cell? _ _ hw152_0; first | rwa [add_block] at this | exact this) GW154.out)) | (dsimp only; exact Nat.ne_of_lt (Nat.lt_of_lt_of_le (by have := World.block_lt_of_cell? _ _ hw152_0; first | rwa [add_block] at this | exact this) GW154.out))) _).trans (hHeld.1)))), ((cell_far (p := ⟨gb154, _, none⟩) (by first | exact Nat.ne_of_lt (Nat.lt_of_lt_of_le (by have := World.block_lt_of_cell? _ _ hw152_1; first | rwa [add_block] at this | exact this) GW154.out) | (rw [add_block]; exact Nat.ne_of_lt (Nat.lt_of_lt_of_le (by have := World.block_lt_of_cell? _ _ hw152_1; first | rwa [add_block] at this | exact this) GW154.out)) | (show (Addr.add _ _).block ≠ _; rw [add_block]; exact Nat.ne_of_lt (Nat.lt_of_lt_of_le (by have := World.block_lt_of_cell? _ _ hw152_1; first | rwa [add_block] at this | exact this) GW154.out)) | (dsimp only; exact Nat.ne_of_lt (Nat.lt_of_lt_of_le (by have := World.block_lt_of_cell? _ _ hw152_1; first | rwa [add_block] at this | exact this) GW154.out))) _).trans (((cell_far (p := ⟨gb154, _, none⟩) (by first | exact Nat.ne_of_lt (Nat.lt_of_lt_of_le (by have := World.block_lt_of_cell? _ _ hw152_1; first | rwa [add_block] at this | exact this) GW154.out) | (rw [add_block]; exact Nat.ne_of_lt (Nat.lt_of_lt_of_le (by have := World.block_lt_of_cell? _ _ hw152_1; first | rwa [add_block] at this | exact this) GW154.out)) | (show (Addr.add _ _).block ≠ _; rw [add_block]; exact Nat.ne_of_lt (Nat.lt_of_lt_of_le (by have := World.block_lt_of_cell? _ _ hw152_1; first | rwa [add_block] at this | exact this) GW154.out)) | (dsimp only; exact Nat.ne_of_lt (Nat.lt_of_lt_of_le (by have := World.block_lt_of_cell? _ _ hw152_1; first | rwa [add_block] at this | exact this) GW154.out))) _).trans (hHeld.2.1)))), ((cell_far (p := ⟨gb154, _, none⟩) (by first | exact Nat.ne_of_lt (Nat.lt_of_lt_of_le (by have := World.block_lt_of_cell? _ _ hw153_0; first | rwa [add_block] at this | exact this) GW154.out) | (rw [add_block]; exact Nat.ne_of_lt (Nat.lt_of_lt_of_le (by have := World.block_lt_of_cell? _ _ hw153_0; first | rwa [add_block] at this | exact this) GW154.out)) | (show (Addr.add _ _).block ≠ _; rw [add_block]; exact Nat.ne_of_lt (Nat.lt_of_lt_of_le (by have := World.block_lt_of_cell? _ _ hw153_0; first | rwa [add_block] at this | exact this) GW154.out)) | (dsimp only; exact Nat.ne_of_lt (Nat.lt_of_lt_of_le (by have := World.block_lt_of_cell? _ _ hw153_0; first | rwa [add_block] at this | exact this) GW154.out))) _).trans (((cell_far (p := ⟨gb154, _, none⟩) (by first | exact Nat.ne_of_lt (Nat.lt_of_lt_of_le (by have := World.block_lt_of_cell? _ _ hw153_0; first | rwa [add_block] at this | exact this) GW154.out) | (rw [add_block]; exact Nat.ne_of_lt (Nat.lt_of_lt_of_le (by have := World.block_lt_of_cell? _ _ hw153_0; first | rwa [add_block] at this | exact this) GW154.out)) | (show (Addr.add _ _).block ≠ _; rw [add_block]; exact Nat.ne_of_lt (Nat.lt_of_lt_of_le (by have := World.block_lt_of_cell? _ _ hw153_0; first | rwa [add_block] at this | exact this) GW154.out)) | (dsimp only; exact Nat.ne_of_lt (Nat.lt_of_lt_of_le (by have := World.block_lt_of_cell? _ _ hw153_0; first | rwa [add_block] at this | exact this) GW154.out))) _).trans (hHeld.2.2.1)))), ((cell_far (p := ⟨gb154, _, none⟩) (by first | exact Nat.ne_of_lt (Nat.lt_of_lt_of_le (by have := World.block_lt_of_cell? _ _ hw153_1; first | rwa [add_block] at this | exact this) GW154.out) | (rw [add_block]; exact Nat.ne_of_lt (Nat.lt_of_lt_of_le (by have := World.block_lt_of_cell? _ _ hw153_1; first | rwa [add_block] at this | exact this) GW154.out)) | (show (Addr.add _ _).block ≠ _; rw [add_block]; exact Nat.ne_of_lt (Nat.lt_of_lt_of_le (by have := World.block_lt_of_cell? _ _ hw153_1; first | rwa [add_block] at this | exact this) GW154.out)) | (dsimp only; exact Nat.ne_of_lt (Nat.lt_of_lt_of_le (by have := World.block_lt_of_cell? _ _ hw153_1; first | rwa [add_block] at this | exact this) GW154.out))) _).trans (((cell_far (p := ⟨gb154, _, none⟩) (by first | exact Nat.ne_of_lt (Nat.lt_of_lt_of_le (by have := World.block_lt_of_cell? _ _ hw153_1; first | rwa [add_block] at this | exact this) GW154.out) | (rw [add_block]; exact Nat.ne_of_lt (Nat.lt_of_lt_of_le (by have := World.block_lt_of_cell? _ _ hw153_1; first | rwa [add_block] at this | exact this) GW154.out)) | (show (Addr.add _ _).block ≠ _; rw [add_block]; exact Nat.ne_of_lt (Nat.lt_of_lt_of_le (by have := World.block_lt_of_cell? _ _ hw153_1; first | rwa [add_block] at this | exact this) GW154.out)) | (dsimp only; exact Nat.ne_of_lt (Nat.lt_of_lt_of_le (by have := World.block_lt_of_cell? _ _ hw153_1; first | rwa [add_block] at this | exact this) GW154.out))) _).trans (hHeld.2.2.2))))⟩ (fun hHeld => ?_)
              clear hK K
              refine one_ (i := 12) (N := none) #[true, true, true, true, true, true, true, true, true, true, true, true, true] rfl rfl (one_of HT_.out (by kernel_rfl)) (by decide) (fun K hK => ?_)
              have hs45 : w42.cell? ⟨gb155, 0, none⟩ = some (.int .i64 0) := (blk_cell BK155.out 0).trans rfl
              have hfs45 := blk_frozen BK155.out 0
              have hns45_0 := NB154_155.out
              have hms45_0 := NB155_154.out
              have hs46 : w42.cell? ⟨gb155, 1, none⟩ = some (.int .u32 0) := (blk_cell BK155.out 1).trans rfl
              have hfs46 := blk_frozen BK155.out 1
              have hns46_0 := NB154_155.out
              have hms46_0 := NB155_154.out
              refine skip_ (w1 := ?_) (by rfl) rfl ?_ ?_
              rotate_left
              ·go_simp
               rfl
              refine hK.out _ _ ⟨((cell_far (p := ⟨gb155, _, none⟩) (by first | exact Nat.ne_of_lt (Nat.lt_of_lt_of_le (by have := World.block_lt_of_cell? _ _ hw152_0; first | rwa [add_block] at this | exact this) GW155.out) | (rw [add_block]; exact Nat.ne_of_lt (Nat.lt_of_lt_of_le (by have := World.block_lt_of_cell? _ _ hw152_0; first | rwa [add_block] at this | exact this) GW155.out)) | (show (Addr.add _ _).block ≠ _; rw [add_block]; exact Nat.ne_of_lt (Nat.lt_of_lt_of_le (by have := World.block_lt_of_cell? _ _ hw152_0; first | rwa [add_block] at this | exact this) GW155.out)) | (dsimp only; exact Nat.ne_of_lt (Nat.lt_of_lt_of_le (by have := World.block_lt_of_cell? _ _ hw152_0; first | rwa [add_block] at this | exact this) GW155.out))) _).trans (((cell_far (p := ⟨gb155, _, none⟩) (by first | exact Nat.ne_of_lt (Nat.lt_of_lt_of_le (by have := World.block_lt_of_cell? _ _ hw152_0; first | rwa [add_block] at this | exact this) GW155.out) | (rw [add_block]; exact Nat.ne_of_lt (Nat.lt_of_lt_of_le (by have := World.block_lt_of_cell? _ _ hw152_0; first | rwa [add_block] at this | exact this) GW155.out)) | (show (Addr.add _ _).block ≠ _; rw [add_block]; exact Nat.ne_of_lt (Nat.lt_of_lt_of_le (by have := World.block_lt_of_cell? _ _ hw152_0; first | rwa [add_block] at this | exact this) GW155.out)) | (dsimp only; exact Nat.ne_of_lt (Nat.lt_of_lt_of_le (by have := World.block_lt_of_cell? _ _ hw152_0; first | rwa [add_block] at this | exact this) GW155.out))) _).trans (hHeld.1)))), ((cell_far (p := ⟨gb155, _, none⟩) (by first | exact Nat.ne_of_lt (Nat.lt_of_lt_of_le (by have := World.block_lt_of_cell? _ _ hw152_1; first | rwa [add_block] at this | exact this) GW155.out) | (rw [add_block]; exact Nat.ne_of_lt (Nat.lt_of_lt_of_le (by have := World.block_lt_of_cell? _ _ hw152_1; first | rwa [add_block] at this | exact this) GW155.out)) | (show (Addr.add _ _).block ≠ _; rw [add_block]; exact Nat.ne_of_lt (Nat.lt_of_lt_of_le (by have := World.block_lt_of_cell? _ _ hw152_1; first | rwa [add_block] at this | exact this) GW155.out)) | (dsimp only; exact Nat.ne_of_lt (Nat.lt_of_lt_of_le (by have := World.block_lt_of_cell? _ _ hw152_1; first | rwa [add_block] at this | exact this) GW155.out))) _).trans (((cell_far (p := ⟨gb155, _, none⟩) (by first | exact Nat.ne_of_lt (Nat.lt_of_lt_of_le (by have := World.block_lt_of_cell? _ _ hw152_1; first | rwa [add_block] at this | exact this) GW155.out) | (rw [add_block]; exact Nat.ne_of_lt (Nat.lt_of_lt_of_le (by have := World.block_lt_of_cell? _ _ hw152_1; first | rwa [add_block] at this | exact this) GW155.out)) | (show (Addr.add _ _).block ≠ _; rw [add_block]; exact Nat.ne_of_lt (Nat.lt_of_lt_of_le (by have := World.block_lt_of_cell? _ _ hw152_1; first | rwa [add_block] at this | exact this) GW155.out)) | (dsimp only; exact Nat.ne_of_lt (Nat.lt_of_lt_of_le (by have := World.block_lt_of_cell? _ _ hw152_1; first | rwa [add_block] at this | exact this) GW155.out))) _).trans (hHeld.2.1)))), ((cell_far (p := ⟨gb155, _, none⟩) (by first | exact Nat.ne_of_lt (Nat.lt_of_lt_of_le (by have := World.block_lt_of_cell? _ _ hw153_0; first | rwa [add_block] at this | exact this) GW155.out) | (rw [add_block]; exact Nat.ne_of_lt (Nat.lt_of_lt_of_le (by have := World.block_lt_of_cell? _ _ hw153_0; first | rwa [add_block] at this | exact this) GW155.out)) | (show (Addr.add _ _).block ≠ _; rw [add_block]; exact Nat.ne_of_lt (Nat.lt_of_lt_of_le (by have := World.block_lt_of_cell? _ _ hw153_0; first | rwa [add_block] at this | exact this) GW155.out)) | (dsimp only; exact Nat.ne_of_lt (Nat.lt_of_lt_of_le (by have := World.block_lt_of_cell? _ _ hw153_0; first | rwa [add_block] at this | exact this) GW155.out))) _).trans (((cell_far (p := ⟨gb155, _, none⟩) (by first | exact Nat.ne_of_lt (Nat.lt_of_lt_of_le (by have := World.block_lt_of_cell? _ _ hw153_0; first | rwa [add_block] at this | exact this) GW155.out) | (rw [add_block]; exact Nat.ne_of_lt (Nat.lt_of_lt_of_le (by have := World.block_lt_of_cell? _ _ hw153_0; first | rwa [add_block] at this | exact this) GW155.out)) | (show (Addr.add _ _).block ≠ _; rw [add_block]; exact Nat.ne_of_lt (Nat.lt_of_lt_of_le (by have := World.block_lt_of_cell? _ _ hw153_0; first | rwa [add_block] at this | exact this) GW155.out)) | (dsimp only; exact Nat.ne_of_lt (Nat.lt_of_lt_of_le (by have := World.block_lt_of_cell? _ _ hw153_0; first | rwa [add_block] at this | exact this) GW155.out))) _).trans (hHeld.2.2.1)))), ((cell_far (p := ⟨gb155, _, none⟩) (by first | exact Nat.ne_of_lt (Nat.lt_of_lt_of_le (by have := World.block_lt_of_cell? _ _ hw153_1; first | rwa [add_block] at this | exact this) GW155.out) | (rw [add_block]; exact Nat.ne_of_lt (Nat.lt_of_lt_of_le (by have := World.block_lt_of_cell? _ _ hw153_1; first | rwa [add_block] at this | exact this) GW155.out)) | (show (Addr.add _ _).block ≠ _; rw [add_block]; exact Nat.ne_of_lt (Nat.lt_of_lt_of_le (by have := World.block_lt_of_cell? _ _ hw153_1; first | rwa [add_block] at this | exact this) GW155.out)) | (dsimp only; exact Nat.ne_of_lt (Nat.lt_of_lt_of_le (by have := World.block_lt_of_cell? _ _ hw153_1; first | rwa [add_block] at this | exact this) GW155.out))) _).trans (((cell_far (p := ⟨gb155, _, none⟩) (by first | exact Nat.ne_of_lt (Nat.lt_of_lt_of_le (by have := World.block_lt_of_cell? _ _ hw153_1; first | rwa [add_block] at this | exact this) GW155.out) | (rw [add_block]; exact Nat.ne_of_lt (Nat.lt_of_lt_of_le (by have := World.block_lt_of_cell? _ _ hw153_1; first | rwa [add_block] at this | exact this) GW155.out)) | (show (Addr.add _ _).block ≠ _; rw [add_block]; exact Nat.ne_of_lt (Nat.lt_of_lt_of_le (by have := World.block_lt_of_cell? _ _ hw153_1; first | rwa [add_block] at this | exact this) GW155.out)) | (dsimp only; exact Nat.ne_of_lt (Nat.lt_of_lt_of_le (by have := World.block_lt_of_cell? _ _ hw153_1; first | rwa [add_block] at this | exact this) GW155.out))) _).trans (hHeld.2.2.2))))⟩ (fun hHeld => ?_)
              clear hK K
              refine done_ (done_of HT_.out (by kernel_rfl)) ?_
              have hnb47 := NB155_154.out
              have hnc47 := NB154_155.out
              have hcz48_0 : w42.cell? ⟨gb155, 0, none⟩ = some (.int .i64 0) := (blk_cell BK155.out 0).trans rfl
              have hcz48_1 : w42.cell? ⟨gb155, 1, none⟩ = some (.int .u32 0) := (blk_cell BK155.out 1).trans rfl
              have hfz48_0 := blk_frozen BK155.out 0
              have hfz48_1 := blk_frozen BK155.out 1
              have hcz49_0 : w42.cell? ⟨gb154, 0, none⟩ = some (.int .i64 0) := (blk_cell BK154.out 0).trans rfl
              have hcz49_1 : w42.cell? ⟨gb154, 1, none⟩ = some (.int .u32 0) := (blk_cell BK154.out 1).trans rfl
              have hfz49_0 := blk_frozen BK154.out 0
              have hfz49_1 := blk_frozen BK154.out 1
              try go_wp2_with (first | ((with_reducible refine gate_callee (f := 56) rfl ?_); refine goesL_ (some 77) rfl rfl Try.func56 (by kernel_rfl) rfl #[.int .u32 ((rd_T38 l0 x7_2).f1), .int .u32 ((rd_T38 l0 (ji17)).f1)] rfl (by (try simp only [List.map_toArray, List.map_cons, List.map_nil]); first | done | (simp only [hji17]; rfl) | rfl | (simp only [List.length_drop, List.length_take]; rfl)) ?_; (with_reducible refine (levyref17_Sub.calls k2 ((rd_T38 l0 x7_2).f1) ((rd_T38 l0 (ji17)).f1) t156 _ A20.out).mono ?_); rintro e w' ⟨rfl, ⟨nd, rfl⟩⟩; refine ⟨_, rfl, ?_⟩) | ((with_reducible refine gate_callee (f := 14) rfl ?_); refine goesL_ (some 82) rfl rfl Try.func14 (by kernel_rfl) rfl #[.int .i64 (wrap64 (a1 - ((rd_T38 l0 (ji17)).f0)))] rfl (by (try simp only [List.map_toArray, List.map_cons, List.map_nil]); first | done | (simp only [hji17]; rfl) | rfl | (simp only [List.length_drop, List.length_take]; rfl)) ?_; (with_reducible refine (levyref17_Whole.calls (wrap64 (a1 - ((rd_T38 l0 (ji17)).f0))) t157 _ A21.out).mono ?_); rintro e w' ⟨rfl, ⟨nd, rfl⟩⟩; refine ⟨_, rfl, ?_⟩) | ((with_reducible refine gate_callee (f := 14) rfl ?_); refine goesL_ (some 88) rfl rfl Try.func14 (by kernel_rfl) rfl #[.int .i64 (wrap64 (((rd_T38 l0 x7_2).f0) - ((rd_T38 l0 (ji17)).f0)))] rfl (by (try simp only [List.map_toArray, List.map_cons, List.map_nil]); first | done | (simp only [hji17]; rfl) | rfl | (simp only [List.length_drop, List.length_take]; rfl)) ?_; (with_reducible refine (levyref17_Whole.calls (wrap64 (((rd_T38 l0 x7_2).f0) - ((rd_T38 l0 (ji17)).f0))) t158 _ A22.out).mono ?_); rintro e w' ⟨rfl, ⟨nd, rfl⟩⟩; refine ⟨_, rfl, ?_⟩) | ((with_reducible refine gate_callee (f := 57) rfl ?_); refine goesL_ (some 91) rfl rfl Try.func57 (by kernel_rfl) rfl #[.int .u32 t157, .int .u32 t158] rfl agx ?_; (with_reducible refine (levyref17_Div.calls k2 t157 t158 t159 _ A23.out).mono ?_); rintro e w' ⟨rfl, ⟨nd, rfl⟩⟩; refine ⟨_, rfl, ?_⟩) | ((with_reducible refine gate_callee (f := 58) rfl ?_); refine goesL_ (some 93) rfl rfl Try.func58 (by kernel_rfl) rfl #[.int .u32 t156] rfl agx ?_; (with_reducible refine (levyref17_Finite.calls t156 false _ A24.out).mono ?_); rintro e w' ⟨rfl, ⟨nd, rfl⟩⟩; refine ⟨_, rfl, ?_⟩))
              go_ret2
              exact ⟨by first | rfl | (simp [errW_none, errW_some] <;> rfl) | (simp only [← hji17]; first | rfl | (simp [errW_none, errW_some] <;> rfl)) | (simp [*, errW_none, errW_some] <;> rfl), blx⟩
            ·rw [if_neg c19] at H
             exact absurd H (by simp)
           ·rw [if_neg c18] at H
            exact absurd H (by simp)
        ·rw [if_neg c14] at H
         exact absurd H (by simp)
       ·rw [if_neg c13] at H
        exact absurd H (by simp)
 ·replace c4 := Bool.eq_false_iff.mpr c4
  subst c4
  have H1 : (some (0, 172)) = some (r1, r2) := by rw [if_neg (show ¬ (false = true) by decide)] at H; exact H
  clear H
  have H := H1
  clear H1
  simp only [Option.some.injEq, Prod.mk.injEq] at H
  obtain ⟨rfl, rfl⟩ := H
  go_enter Try.func37, Try.ntmps37
  go_wp2_with (first | ((with_reducible refine gate_callee (f := 55) rfl ?_); refine goesL_ (some 18) rfl rfl Try.func55 (by kernel_rfl) rfl #[.slice A0 l0.length c0] rfl agx ?_; (with_reducible refine (levyref17_Ordered.calls k _ _ l0 false _ ?side1 ?side2 A3.out).mono ?_); (case side1 => repeat (first | exact HR0.out | (with_reducible refine Kd.C_alloc ?_ _) | (with_reducible refine Kd.C_drewN ?_ _) | (with_reducible refine Kd.C_drew ?_))); (case side2 => exact HC0.out); rintro e w' ⟨rfl, ⟨nd, rfl⟩⟩; refine ⟨_, rfl, ?_⟩))
  go_ret2
  exact ⟨by first | rfl | (simp [errW_none, errW_some] <;> rfl) | (simp [*, errW_none, errW_some] <;> rfl), blx⟩
end Go.Proofs.Ytfhgomcfpmbhnaa.PS
end

section
namespace Go.Proofs.Ytfhgomcfpmbhnaa.PS
open Go.RowKit Go.Proofs.YtfhgomcfpmbhnaaW.PrintWords Go.Proofs.YtfhgomcfpmbhnaaW.PrintLast Go.Proofs.YtfhgomcfpmbhnaaW.PrintMore
attribute [local go_sem] frun_add frun_sub frun_mul frun_quo frun_neg frun_of frun_same frun_store frun_bits frun_from
attribute [local go_sem] max2_int min2_int max_two min_two max_three min_three max_four min_four
set_option linter.unusedVariables false
set_option linter.unusedSimpArgs false
def curve_whole.f (a0 : Int) : Option (Nat) := some (fl_of a0)
set_option maxHeartbeats 8000000 in
set_option maxRecDepth 100000 in
theorem curve_whole.calls (a0 : Int) (r : Nat) (w : World) (h : curve_whole.f a0 = some r) :
  Calls Try.prog 33 #[.int .i64 a0] w fun e w' => e = .returned (.float .f32 r) ∧ Drawn0 w w' := by
 have H : (some (fl_of a0)) = some r := h
 clear h
 obtain rfl := Option.some.inj H
 go_enter Try.func33, Try.ntmps33
 go_wp2
 go_ret
 exact ⟨by first | rfl | (simp; done) | (simp [*]; done), by repeat (first | exact Drawn0.refl _ | apply Drawn0.step)⟩
end Go.Proofs.Ytfhgomcfpmbhnaa.PS
end
