-- Written by a program of this session's (wip/tools/myprint.py): a function's plain form and its contract.
import Derived.Test.YtnjhjaifmgjljaaDoorPMx0
namespace Go.Proofs.YtnjhjaifmgjljaaDoor.PM
open Go.RowKit Go.Proofs.YtnjhjaifmgjljaaDoorW.PrintWords Go.Proofs.YtnjhjaifmgjljaaDoorW.PrintLast Go.Proofs.YtnjhjaifmgjljaaDoorW.PrintMore
attribute [local go_sem] max2_int min2_int max_two min_two max_three min_three max_four min_four   -- for this text's walks alone
set_option linter.unusedVariables false
set_option linter.unusedSimpArgs false

/-! ### levyref1_divided: function 102 -/
def levyref1_divided.l0 : Nat → List Int → Int → Int → Int → Int → Option (Int × Int)
 | 0, _, _, _, _, _ => none
 | k + 1, x0, x1, x6, x7, x8 => if x8 ≥ 0 then (if 0 ≤ x8 then (if x8 < (x0.length : Int) then (if x1 = 0 then (none) else (levyref1_divided.l0 k x0 x1 (mn (wrap64 ((wrap64 (10 * x6)) + (wrap64 (Int.tdiv (wrap64 ((wrap64 (10 * x7)) + (rd x0 x8))) x1)))) 100000000000000) (Int.tmod (wrap64 ((wrap64 (10 * x7)) + (rd x0 x8))) x1) (wrap64 (x8 - 1)))) else (none)) else (none)) else (some (x6, x7))
def levyref1_divided.f (k : Nat) (l0 : List Int) (a1 : Int) : Option (Int × Int) := levyref1_divided.l0 k l0 a1 0 0 (wrap64 ((l0.length : Int) - 1))
theorem levyref1_divided.mono_l : ∀ k, (∀ y0 y1 y2 y3 y4, LeO (levyref1_divided.l0 k y0 y1 y2 y3 y4) (levyref1_divided.l0 (k + 1) y0 y1 y2 y3 y4))
 | 0 => fun _ _ _ _ _ r h => by simp [levyref1_divided.l0] at h
 | k + 1 => by
  have ih0 := levyref1_divided.mono_l k
  ·intro y0 y1 y2 y3 y4
   unfold levyref1_divided.l0
   repeat' first
   | (with_reducible exact ih0 _ _ _ _ _)
   | (with_reducible exact LeO.refl _)
   | (with_reducible exact LeO.none _)
   | (with_reducible refine LeO.ite ?_ ?_)
   | (with_reducible refine LeO.bind ?_ (fun _ => ?_))
   | exact ih0 _ _ _ _ _
   | exact LeO.none _
   | refine LeO.ite ?_ ?_
   | refine LeO.bind ?_ (fun _ => ?_)
theorem levyref1_divided.mono : ∀ a0 a1 k, LeO (levyref1_divided.f k a0 a1) (levyref1_divided.f (k + 1) a0 a1) := by
 intro a0 a1 k
 have ih0 := levyref1_divided.mono_l k
 unfold levyref1_divided.f
 repeat' first
   | (with_reducible exact ih0 _ _ _ _ _)
   | (with_reducible exact LeO.refl _)
   | (with_reducible exact LeO.none _)
   | (with_reducible refine LeO.ite ?_ ?_)
   | (with_reducible refine LeO.bind ?_ (fun _ => ?_))
   | exact ih0 _ _ _ _ _
   | exact LeO.none _
   | refine LeO.ite ?_ ?_
   | refine LeO.bind ?_ (fun _ => ?_)
set_option maxHeartbeats 8000000 in
set_option maxRecDepth 100000 in
theorem levyref1_divided.calls (k : Nat) (A0 : Option Addr) (c0 : Nat) (l0 : List Int) (a1 : Int) (r1 : Int) (r2 : Int) (w : World) (hr0 : Kd.C (Kd.int .i64) w A0 l0.length l0) (hc0 : l0.length ≤ c0) (h : levyref1_divided.f k l0 a1 = some (r1, r2)) :
  Calls Tryd.prog 102 #[.slice A0 l0.length c0, .int .i64 a1] w fun e w' => e = .returned (.tuple #[.int .i64 r1, .int .i64 r2]) ∧ Below w.heap.size w w' := by
 have HR0 := Aside0.mk hr0
 have HC0 := Aside0.mk hc0
 clear hr0 hc0
 have HB := Aside0.mk (Below.refl w.heap.size w)
 have H : (levyref1_divided.l0 k l0 a1 0 0 (wrap64 ((l0.length : Int) - 1))) = some (r1, r2) := h
 clear h
 have H' := Aside0.mk H
 clear H
 go_enter Tryd.func102, Tryd.ntmps102
 go_wp2
 go_loopg [6, 7, 8] k (fun kq v6 v7 v8 w' => ∃ (x6_1 : Int) (x7_1 : Int) (x8_1 : Int), v6 = .int .i64 x6_1 ∧ v7 = .int .i64 x7_1 ∧ v8 = .int .i64 x8_1 ∧ Aside0 (levyref1_divided.l0 kq l0 a1 x6_1 x7_1 x8_1 = some (r1, r2)) ∧ Aside0 (kq ≤ k) ∧ Aside0 (Below w.heap.size w w'))
 case atStart => exact ⟨(0), (0), (wrap64 ((l0.length : Int) - 1)), (by first | rfl | (simp; done) | (simp [*]; done)), (by first | rfl | (simp; done) | (simp [*]; done)), (by first | rfl | (simp; done) | (simp [*]; done)), H', ⟨Nat.le_refl _⟩, ⟨blx⟩⟩
 case round =>
  clear H'
  try clear c1
  try clear p2
  obtain ⟨x6_1, x7_1, x8_1, rfl, rfl, rfl, HA, HK1, HB⟩ := hrel
  cases gk with
  | zero => exact absurd HA.out (by simp [levyref1_divided.l0])
  | succ k1 =>
   have H := HA.out
   clear HA
   simp only [levyref1_divided.l0] at H
   by_cases c3 : x8_1 ≥ 0
   ·rw [if_pos c3] at H
    have c3b0 : decide (0 ≤ x8_1) = true := decide_eq_true c3
    clear c3
    by_cases c4 : 0 ≤ x8_1
    ·rw [if_pos c4] at H
     have c4b0 : decide (0 ≤ x8_1) = true := decide_eq_true c4
     clear c4
     by_cases c5 : x8_1 < (l0.length : Int)
     ·rw [if_pos c5] at H
      have c5b0 : decide (x8_1 < (l0.length : Int)) = true := decide_eq_true c5
      clear c5
      by_cases c6 : a1 = 0
      ·rw [if_pos c6] at H
       exact absurd H (by simp)
      ·rw [if_neg c6] at H
       have c6b0 : (a1 == 0) = false := beq_eq_false_iff_ne.mpr c6
       have c6b1 : (a1 != 0) = true := bne_iff_ne.mpr c6
       obtain ⟨ji7, hji7⟩ : ∃ j_ : Int, (mn (wrap64 ((wrap64 (10 * x6_1)) + (wrap64 (Int.tdiv (wrap64 ((wrap64 (10 * x7_1)) + (rd l0 x8_1))) a1)))) 100000000000000) = j_ := ⟨_, rfl⟩
       replace H : (levyref1_divided.l0 k1 l0 a1 ji7 (Int.tmod (wrap64 ((wrap64 (10 * x7_1)) + (rd l0 x8_1))) a1) (wrap64 (x8_1 - 1))) = some (r1, r2) := by first | (rw [hji7] at H; exact H) | (simp only [hji7] at H ⊢; exact H)
       have hji7_ : (if 100000000000000 < (wrap64 ((wrap64 (10 * x6_1)) + (wrap64 (Int.tdiv (wrap64 ((wrap64 (10 * x7_1)) + (rd l0 x8_1))) a1)))) then 100000000000000 else (wrap64 ((wrap64 (10 * x6_1)) + (wrap64 (Int.tdiv (wrap64 ((wrap64 (10 * x7_1)) + (rd l0 x8_1))) a1))))) = ji7 := hji7
       have H' := Aside0.mk H
       clear H
       have p446 : 0 ≤ (x8_1 : Int) := odx
       have q446 : x8_1 < (l0.length : Int) := odx
       obtain ⟨ad446, e446, hx446_0⟩ := Kd.at_int HR0.out x8_1 p446 q446
       cases e446
       replace hx446_0 := (HB.out.cell (World.block_lt_of_cell? w _ hx446_0)).trans hx446_0
       replace p446 := eq_true p446
       replace q446 := eq_true q446
       go_wp2
       go_roundg k1
       case measure => have := HK1.out; omega
       case rel => exact ⟨(ji7), (Int.tmod (wrap64 ((wrap64 (10 * x7_1)) + (rd l0 x8_1))) a1), (wrap64 (x8_1 - 1)), (by first | rfl | (simp; done) | (simp only [← hji7] <;> (first | rfl | simp)) | (simp [*]; done)), (by first | rfl | (simp; done) | (simp [*]; done)), (by first | rfl | (simp; done) | (simp [*]; done)), H', ⟨by have := HK1.out; omega⟩, ⟨blx⟩⟩
     ·rw [if_neg c5] at H
      exact absurd H (by simp)
    ·rw [if_neg c4] at H
     exact absurd H (by simp)
   ·rw [if_neg c3] at H
    have c3b0 : decide (0 ≤ x8_1) = false := decide_eq_false c3
    clear c3
    simp only [Option.some.injEq, Prod.mk.injEq] at H
    obtain ⟨rfl, rfl⟩ := H
    go_wp2
    go_ret2
    exact ⟨by first | rfl | (simp [errW_none, errW_some] <;> rfl) | (simp [*, errW_none, errW_some] <;> rfl), blx⟩

end Go.Proofs.YtnjhjaifmgjljaaDoor.PM
