-- Written by a program of this session's (wip/tools/myprint.py): a function's plain form and its contract.
import Derived.Test.YtnjhjaifmgjljaaDoorPMx0
namespace Go.Proofs.YtnjhjaifmgjljaaDoor.PM
open Go.RowKit Go.Proofs.YtnjhjaifmgjljaaDoorW.PrintWords Go.Proofs.YtnjhjaifmgjljaaDoorW.PrintLast Go.Proofs.YtnjhjaifmgjljaaDoorW.PrintMore
attribute [local go_sem] max2_int min2_int max_two min_two max_three min_three max_four min_four   -- for this text's walks alone
set_option linter.unusedVariables false
set_option linter.unusedSimpArgs false

/-! ### levylaw1_right: function 53 -/
def levylaw1_right.l0 : Nat → List (S72) → List (S72) → Int → Option ((List (S72)))
 | 0, _, _, _ => none
 | k + 1, x0, x3, x4 => if x4 < (x0.length : Int) then (if x4 < 7 then (if 0 ≤ x4 then (if 0 ≤ (wrap64 ((x3.length : Int) - 1)) then (if (wrap64 ((x3.length : Int) - 1)) < (x3.length : Int) then (if x3.length < 8796093022208 then (levylaw1_right.l0 k x0 (x3 ++ [(⟨wrap64 (((rd_T72 x3 (wrap64 ((x3.length : Int) - 1))).f0) + (wrap64 (1 + (Int.tmod (wrap64 ((Int.tmod ((rd_T72 x0 x4).f0) 1000000000) + 1000000000)) 1000000000)))), Int.tmod (wrap64 ((Int.tmod ((rd_T72 x0 x4).f1) 1000001) + 1000001)) 1000001⟩ : S72)]) (wrap64 (x4 + 1))) else (none)) else (none)) else (none)) else (none)) else (some x3)) else (some x3)
def levylaw1_right.f (k : Nat) (l0 : List (S72)) : Option ((List (S72))) := levylaw1_right.l0 k l0 (([(⟨0, 150000⟩ : S72)] : List (S72))) 0
theorem levylaw1_right.mono_l : ∀ k, (∀ y0 y1 y2, LeO (levylaw1_right.l0 k y0 y1 y2) (levylaw1_right.l0 (k + 1) y0 y1 y2))
 | 0 => fun _ _ _ r h => by simp [levylaw1_right.l0] at h
 | k + 1 => by
  have ih0 := levylaw1_right.mono_l k
  ·intro y0 y1 y2
   unfold levylaw1_right.l0
   repeat' first
   | (with_reducible exact ih0 _ _ _)
   | (with_reducible exact LeO.refl _)
   | (with_reducible exact LeO.none _)
   | (with_reducible refine LeO.ite ?_ ?_)
   | (with_reducible refine LeO.bind ?_ (fun _ => ?_))
   | exact ih0 _ _ _
   | exact LeO.none _
   | refine LeO.ite ?_ ?_
   | refine LeO.bind ?_ (fun _ => ?_)
theorem levylaw1_right.mono : ∀ a0 k, LeO (levylaw1_right.f k a0) (levylaw1_right.f (k + 1) a0) := by
 intro a0 k
 have ih0 := levylaw1_right.mono_l k
 unfold levylaw1_right.f
 repeat' first
   | (with_reducible exact ih0 _ _ _)
   | (with_reducible exact LeO.refl _)
   | (with_reducible exact LeO.none _)
   | (with_reducible refine LeO.ite ?_ ?_)
   | (with_reducible refine LeO.bind ?_ (fun _ => ?_))
   | exact ih0 _ _ _
   | exact LeO.none _
   | refine LeO.ite ?_ ?_
   | refine LeO.bind ?_ (fun _ => ?_)
set_option maxHeartbeats 8000000 in
set_option maxRecDepth 100000 in
theorem levylaw1_right.calls (k : Nat) (A0 : Option Addr) (c0 : Nat) (l0 : List (S72)) (r : List (S72)) (w : World) (hr0 : Kd.C k72 w A0 l0.length l0) (hc0 : l0.length ≤ c0) (h : levylaw1_right.f k l0 = some r) :
  Calls Tryd.prog 53 #[.slice A0 l0.length c0] w fun e w' => ∃ v0_ : Value, e = .returned (v0_) ∧ Kd.R k72 72 w' w.heap.size (fun _ => True) v0_ r ∧ Below w.heap.size w w' := by
 have hu72 := Tryd.underlying72
 have HR0 := Aside0.mk hr0
 have HC0 := Aside0.mk hc0
 clear hr0 hc0
 have HB := Aside0.mk (Below.refl w.heap.size w)
 have H : (levylaw1_right.l0 k l0 (([(⟨0, 150000⟩ : S72)] : List (S72))) 0) = some r := h
 clear h
 obtain ⟨y742, hy742⟩ : ∃ y_ : List (S72), y_ = (([(⟨0, 150000⟩ : S72)] : List (S72))) := ⟨_, rfl⟩
 replace H : (levylaw1_right.l0 k l0 y742 0) = some r := by first | (rw [hy742]; with_reducible exact H) | (have H2_ := (Option.bind_some _ _).symm.trans H; rw [hy742]; with_reducible exact H2_) | (have H2_ := (Option.bind_some _ _).symm.trans H; with_reducible exact H2_) | with_reducible exact H | (rw [hy742]; exact H) | exact H
 have Ny742 := Aside0.mk hy742
 clear hy742
 have H' := Aside0.mk H
 clear H
 go_enter Tryd.func53, Tryd.ntmps53
 go_wp2_with (first | ((with_reducible refine gate_dst (N := 8) rfl ?_); refine Kd.R_lit k72 _ 72 ?hg (N := 8) ?hd (xs := ([(⟨0, 150000⟩ : S72)] : List (S72))) (inner := [.int .i64 0, .int .i64 150000]) (ok := fun _ => True) (okp := fun _ => True) ?hr ?hp (fun _ hk => hk) trivial (Below.refl _ _) (Nat.le_refl _) (by simp) ?_; (case hd => rfl); (case hg => rfl); (case hr => first | (go_simp; done) | (go_simp; rfl)); (case hp => exact (Reps.c2 (show Kd.M k72 _ _ _ (⟨0, 150000⟩ : S72) [.int .i64 0, .int .i64 150000] from (k72_mkM _ _ _ (⟨0, 150000⟩ : S72) )) (Reps.none _ _))); intro v743 w2 ho3 hb hg_ hnew_; clear hg_ hnew_; (first | rw [← Ny742.out] at ho3 | (simp only [Int.reduceToNat] at ho3; rw [← Ny742.out] at ho3)); have n0_ := Aside0.mk (Kd.R_lower ho3 (below_size blx)); have n1_ := Aside0.mk (below_step blx hb); clear HB; have HO744 := n0_; have HB := n1_; clear n0_ n1_; clear hb ho3))
 go_loopg [3, 4] k (fun kq v3 v4 w' => ∃ (x3_1 : List (S72)) (x4_1 : Int), v4 = .int .i64 x4_1 ∧ Aside0 (levylaw1_right.l0 kq l0 x3_1 x4_1 = some r) ∧ Aside0 (kq ≤ k) ∧ Aside0 (Kd.R k72 72 w' w.heap.size (fun _ => True) v3 x3_1) ∧ Aside0 (Below w.heap.size w w'))
 case atStart => exact ⟨(y742), (0), (by first | rfl | (simp; done) | (simp [*]; done)), H', ⟨Nat.le_refl _⟩, ⟨by (with_reducible repeat (first | apply Kd.R_alloc | apply Kd.R_drewN | apply Kd.R_drew)); exact HO744.out⟩, ⟨blx⟩⟩
 case round =>
  clear H'
  try clear c2
  try clear p2
  obtain ⟨x3_1, x4_1, rfl, HA, HK1, HO_3, HB⟩ := hrel
  cases gk with
  | zero => exact absurd HA.out (by simp [levylaw1_right.l0])
  | succ k1 =>
   have H := HA.out
   clear HA
   simp only [levylaw1_right.l0] at H
   by_cases c4 : x4_1 < (l0.length : Int)
   ·rw [if_pos c4] at H
    have c4b0 : decide (x4_1 < (l0.length : Int)) = true := decide_eq_true c4
    clear c4
    by_cases c5 : x4_1 < 7
    ·rw [if_pos c5] at H
     have c5b0 : decide (x4_1 < 7) = true := decide_eq_true c5
     clear c5
     by_cases c6 : 0 ≤ x4_1
     ·rw [if_pos c6] at H
      have c6b0 : decide (0 ≤ x4_1) = true := decide_eq_true c6
      clear c6
      obtain ⟨ji7, hji7⟩ : ∃ j_ : Int, (wrap64 ((x3_1.length : Int) - 1)) = j_ := ⟨_, rfl⟩
      replace H : (if 0 ≤ (ji7) then (if (ji7) < (x3_1.length : Int) then (if x3_1.length < 8796093022208 then (levylaw1_right.l0 k1 l0 (x3_1 ++ [(⟨wrap64 (((rd_T72 x3_1 (ji7)).f0) + (wrap64 (1 + (Int.tmod (wrap64 ((Int.tmod ((rd_T72 l0 x4_1).f0) 1000000000) + 1000000000)) 1000000000)))), Int.tmod (wrap64 ((Int.tmod ((rd_T72 l0 x4_1).f1) 1000001) + 1000001)) 1000001⟩ : S72)]) (wrap64 (x4_1 + 1))) else (none)) else (none)) else (none)) = some r := by first | (rw [hji7] at H; exact H) | (simp only [hji7] at H ⊢; exact H)
      have hji7w : (IntKind.i64.wrap ((x3_1.length : Int) - 1)) = ji7 := (i64_w _).trans hji7
      by_cases c8 : 0 ≤ (ji7)
      ·rw [if_pos c8] at H
       have c8b0 : decide (0 ≤ (ji7)) = true := decide_eq_true c8
       clear c8
       by_cases c9 : (ji7) < (x3_1.length : Int)
       ·rw [if_pos c9] at H
        have c9b0 : decide ((ji7) < (x3_1.length : Int)) = true := decide_eq_true c9
        clear c9
        by_cases c10 : x3_1.length < 8796093022208
        ·rw [if_pos c10] at H
         have LMc10 := Aside0.mk c10
         clear c10
         obtain ⟨y748, hy748⟩ : ∃ y_ : List (S72), y_ = (x3_1 ++ [(⟨wrap64 (((rd_T72 x3_1 (ji7)).f0) + (wrap64 (1 + (Int.tmod (wrap64 ((Int.tmod ((rd_T72 l0 x4_1).f0) 1000000000) + 1000000000)) 1000000000)))), Int.tmod (wrap64 ((Int.tmod ((rd_T72 l0 x4_1).f1) 1000001) + 1000001)) 1000001⟩ : S72)]) := ⟨_, rfl⟩
         replace H : (levylaw1_right.l0 k1 l0 y748 (wrap64 (x4_1 + 1))) = some r := by first | (rw [hy748]; with_reducible exact H) | (have H2_ := (Option.bind_some _ _).symm.trans H; rw [hy748]; with_reducible exact H2_) | (have H2_ := (Option.bind_some _ _).symm.trans H; with_reducible exact H2_) | with_reducible exact H | (rw [hy748]; exact H) | exact H
         have Ny748 := Aside0.mk hy748
         clear hy748
         have H' := Aside0.mk H
         clear H
         have p745 : 0 ≤ (x4_1 : Int) := odx
         have q745 : x4_1 < (l0.length : Int) := odx
         obtain ⟨ad745, e745, hx745_0, hx745_1⟩ := at_T72 HR0.out x4_1 p745 q745
         cases e745
         replace hx745_0 := (HB.out.cell (World.block_lt_of_cell? w _ hx745_0)).trans hx745_0
         replace hx745_1 := (HB.out.cell (World.block_lt_of_cell? w _ hx745_1)).trans hx745_1
         replace p745 := eq_true p745
         replace q745 := eq_true q745
         have p746 : 0 ≤ (x4_1 : Int) := odx
         have q746 : x4_1 < (l0.length : Int) := odx
         obtain ⟨ad746, e746, hx746_0, hx746_1⟩ := at_T72 HR0.out x4_1 p746 q746
         obtain rfl : ad745 = ad746 := (by injection e746)
         replace hx746_0 := (HB.out.cell (World.block_lt_of_cell? w _ hx746_0)).trans hx746_0
         replace hx746_1 := (HB.out.cell (World.block_lt_of_cell? w _ hx746_1)).trans hx746_1
         replace p746 := eq_true p746
         replace q746 := eq_true q746
         obtain ⟨Ao11, co11, eo11⟩ := Kd.R_slice HO_3.out
         subst eo11
         have p747 : 0 ≤ ((ji7) : Int) := odx
         have q747 : (ji7) < (x3_1.length : Int) := odx
         obtain ⟨ad747, e747, hx747_0, hx747_1⟩ := at_T72 (Kd.R_reads' HO_3.out).2.2 (ji7) p747 q747
         cases e747
         replace p747 := eq_true p747
         replace q747 := eq_true q747
         go_wp2_with (first | ((with_reducible refine gate_builtin (b := .append) (xs := #[.tmp 36, .tmp 48]) rfl ?_); at_builtin; refine Kd.R_append k72 (w0 := w) w.heap.size rfl (.tmp 36) (.tmp 48) 43 72 (.agg #[(.int .i64 0), (.int .i64 0)]) 16 rfl Tryd.underlying43 info72 rfl (by decide) (by omega) (.slice (some ad747) x3_1.length co11) x3_1 (⟨wrap64 (((rd_T72 x3_1 (ji7)).f0) + (wrap64 (1 + (Int.tmod (wrap64 ((Int.tmod ((rd_T72 l0 x4_1).f0) 1000000000) + 1000000000)) 1000000000)))), Int.tmod (wrap64 ((Int.tmod ((rd_T72 l0 x4_1).f1) 1000001) + 1000001)) 1000001⟩ : S72) [.int .i64 (wrap64 (((rd_T72 x3_1 (ji7)).f0) + (wrap64 (1 + (Int.tmod (wrap64 ((Int.tmod ((rd_T72 l0 x4_1).f0) 1000000000) + 1000000000)) 1000000000))))), .int .i64 (Int.tmod (wrap64 ((Int.tmod ((rd_T72 l0 x4_1).f1) 1000001) + 1000001)) 1000001)] (fun _ => True) (fun _ => False) rfl rfl ?aP (fun _ hk => hk.elim) ?aF ?aO ?aB ?aS ?aL ?_; (case aP => exact k72_mkM _ _ _ (⟨wrap64 (((rd_T72 x3_1 (ji7)).f0) + (wrap64 (1 + (Int.tmod (wrap64 ((Int.tmod ((rd_T72 l0 x4_1).f0) 1000000000) + 1000000000)) 1000000000)))), Int.tmod (wrap64 ((Int.tmod ((rd_T72 l0 x4_1).f1) 1000001) + 1000001)) 1000001⟩ : S72)); (case aB => exact blx); (case aF => exact (fun _ _ => trivial)); (case aO => exact (by (with_reducible repeat (first | apply Kd.R_alloc | apply Kd.R_drewN | apply Kd.R_drew)); exact HO_3.out)); (case aS => exact (below_size blx)); (case aL => have := LMc10.out; omega); intro v749 w12 ho hb hg hat; rw [← Ny748.out] at ho; have n0_ := Aside0.mk (hb); have n1_ := Aside0.mk (ho); clear HB; clear HO_3; have HB := n0_; have HO750 := n1_; clear n0_ n1_; clear ho hb hg hat))
         go_roundg k1
         case measure => have := HK1.out; omega
         case rel => exact ⟨(y748), (wrap64 (x4_1 + 1)), (by first | rfl | (simp; done) | (simp [*]; done)), H', ⟨by have := HK1.out; omega⟩, ⟨by (with_reducible repeat (first | apply Kd.R_alloc | apply Kd.R_drewN | apply Kd.R_drew)); exact HO750.out⟩, ⟨blx⟩⟩
        ·rw [if_neg c10] at H
         exact absurd H (by simp)
       ·rw [if_neg c9] at H
        exact absurd H (by simp)
      ·rw [if_neg c8] at H
       exact absurd H (by simp)
     ·rw [if_neg c6] at H
      exact absurd H (by simp)
    ·rw [if_neg c5] at H
     have c5b0 : decide (x4_1 < 7) = false := decide_eq_false c5
     clear c5
     obtain rfl := Option.some.inj H
     go_wp2
     go_ret
     exact ⟨_, by first | rfl | (simp [errW_none, errW_some] <;> rfl) | (simp [*, errW_none, errW_some] <;> rfl), by (with_reducible repeat (first | apply Kd.R_alloc | apply Kd.R_drewN | apply Kd.R_drew)); exact HO_3.out, blx⟩
   ·rw [if_neg c4] at H
    have c4b0 : decide (x4_1 < (l0.length : Int)) = false := decide_eq_false c4
    clear c4
    obtain rfl := Option.some.inj H
    go_wp2
    go_ret
    exact ⟨_, by first | rfl | (simp [errW_none, errW_some] <;> rfl) | (simp [*, errW_none, errW_some] <;> rfl), by (with_reducible repeat (first | apply Kd.R_alloc | apply Kd.R_drewN | apply Kd.R_drew)); exact HO_3.out, blx⟩

end Go.Proofs.YtnjhjaifmgjljaaDoor.PM
