-- Written by a program of this session's (wip/tools/myprint.py): a function's plain form and its contract.
import Derived.Test.YtnjhjaifmgjljaaDoorPMx0
import Derived.Test.YtnjhjaifmgjljaaDoorPMx4
import Derived.Test.YtnjhjaifmgjljaaDoorPMx12
import Derived.Test.YtnjhjaifmgjljaaDoorPMx13
import Derived.Test.YtnjhjaifmgjljaaDoorPMx14
import Derived.Test.YtnjhjaifmgjljaaDoorPMx40
import Derived.Test.YtnjhjaifmgjljaaDoorPMx42
import Derived.Test.YtnjhjaifmgjljaaDoorPMx43
import Derived.Test.YtnjhjaifmgjljaaDoorPMx44
import Derived.Test.YtnjhjaifmgjljaaDoorPMx50
namespace Go.Proofs.YtnjhjaifmgjljaaDoor.PM
open Go.RowKit Go.Proofs.YtnjhjaifmgjljaaDoorW.PrintWords Go.Proofs.YtnjhjaifmgjljaaDoorW.PrintLast Go.Proofs.YtnjhjaifmgjljaaDoorW.PrintMore
attribute [local go_sem] max2_int min2_int max_two min_two max_three min_three max_four min_four   -- for this text's walks alone
set_option linter.unusedVariables false
set_option linter.unusedSimpArgs false

/-! ### levyref1_Scale: function 50 -/
def levyref1_Scale.j0 : Nat → Int → Int → Int → Bool → Int → Int → Option (Int × Int)
 | 0, _, _, _, _, _, _ => none
 | k + 1, x1, x2, x3, x37, x633000, x633001 => if x37 = true then ((levyref1_bad.f 5).bind fun bt644 => (some (bt644.1, bt644.2))) else ((levyref1_size.f x633001).bind fun t646 => ((levyref1_digits.f k t646).bind fun t647 => ((levyref1_size.f x1).bind fun t650 => ((levyref1_digits.f k t650).bind fun t651 => ((levyref1_product.f k t647 t651).bind fun t654 => ((levyref1_rounded.f k t654 ((decide (x633001 < 0)) != (decide (x1 < 0))) x2 x3).bind fun t657 => ((levyref1_bounded.f 1 t657).bind fun bt658 => (some (bt658.1, bt658.2)))))))))
def levyref1_Scale.f (k : Nat) (a0_0 : Int) (a0_1 : Int) (a1 : Int) (a2 : Int) (a3 : Int) : Option (Int × Int) := (levyref1_looked.f k (([(⟨a0_0, a0_1⟩ : S23)] : List (S23)))).bind fun bt637 => (if bt637.2.2 = true then (some (bt637.1, bt637.2.1)) else (if a0_0 = 1 then ((levyref1_within.f a1 (-1000000000) 1000000000).bind fun t641 => (if t641 = true then ((levyref1_within.f a2 1 1000000000).bind fun t642 => (if t642 = true then ((levyref1_isMode.f a3).bind fun t643 => (levyref1_Scale.j0 k a1 a2 a3 (!t643) a0_0 a0_1)) else (levyref1_Scale.j0 k a1 a2 a3 true a0_0 a0_1))) else (levyref1_Scale.j0 k a1 a2 a3 true a0_0 a0_1))) else (levyref1_Scale.j0 k a1 a2 a3 true a0_0 a0_1)))
theorem levyref1_Scale.mono_l : ∀ k, (∀ y0 y1 y2 y3 y4 y5, LeO (levyref1_Scale.j0 k y0 y1 y2 y3 y4 y5) (levyref1_Scale.j0 (k + 1) y0 y1 y2 y3 y4 y5))
 | 0 => fun _ _ _ _ _ _ r h => by simp [levyref1_Scale.j0] at h
 | k + 1 => by
  have ih0 := levyref1_Scale.mono_l k
  ·intro y0 y1 y2 y3 y4 y5
   unfold levyref1_Scale.j0
   repeat' first
   | (with_reducible exact ih0 _ _ _ _ _ _)
   | (with_reducible exact levyref1_digits.mono _ _)
   | (with_reducible exact levyref1_looked.mono _ _)
   | (with_reducible exact levyref1_product.mono _ _ _)
   | (with_reducible exact levyref1_rounded.mono _ _ _ _ _)
   | (with_reducible exact LeO.refl _)
   | (with_reducible exact LeO.none _)
   | (with_reducible refine LeO.ite ?_ ?_)
   | (with_reducible refine LeO.bind ?_ (fun _ => ?_))
   | exact ih0 _ _ _ _ _ _
   | exact levyref1_digits.mono _ _
   | exact levyref1_looked.mono _ _
   | exact levyref1_product.mono _ _ _
   | exact levyref1_rounded.mono _ _ _ _ _
   | exact LeO.none _
   | refine LeO.ite ?_ ?_
   | refine LeO.bind ?_ (fun _ => ?_)
theorem levyref1_Scale.mono : ∀ a0 a1 a2 a3 a4 k, LeO (levyref1_Scale.f k a0 a1 a2 a3 a4) (levyref1_Scale.f (k + 1) a0 a1 a2 a3 a4) := by
 intro a0 a1 a2 a3 a4 k
 have ih0 := levyref1_Scale.mono_l k
 unfold levyref1_Scale.f
 repeat' first
   | (with_reducible exact ih0 _ _ _ _ _ _)
   | (with_reducible exact levyref1_digits.mono _ _)
   | (with_reducible exact levyref1_looked.mono _ _)
   | (with_reducible exact levyref1_product.mono _ _ _)
   | (with_reducible exact levyref1_rounded.mono _ _ _ _ _)
   | (with_reducible exact LeO.refl _)
   | (with_reducible exact LeO.none _)
   | (with_reducible refine LeO.ite ?_ ?_)
   | (with_reducible refine LeO.bind ?_ (fun _ => ?_))
   | exact ih0 _ _ _ _ _ _
   | exact levyref1_digits.mono _ _
   | exact levyref1_looked.mono _ _
   | exact levyref1_product.mono _ _ _
   | exact levyref1_rounded.mono _ _ _ _ _
   | exact LeO.none _
   | refine LeO.ite ?_ ?_
   | refine LeO.bind ?_ (fun _ => ?_)
set_option maxHeartbeats 8000000 in
set_option maxRecDepth 100000 in
theorem levyref1_Scale.calls (k : Nat) (a0_0 : Int) (a0_1 : Int) (a1 : Int) (a2 : Int) (a3 : Int) (r1 : Int) (r2 : Int) (w : World) (h : levyref1_Scale.f k a0_0 a0_1 a1 a2 a3 = some (r1, r2)) :
  Calls Tryd.prog 50 #[.agg #[.int .i64 a0_0, .int .i64 a0_1], .int .i64 a1, .int .i64 a2, .int .i64 a3] w fun e w' => e = .returned (.agg #[.int .i64 r1, .int .i64 r2]) ∧ Below w.heap.size w w' := by
 have hu23 := Tryd.underlying23
 have HB := Aside0.mk (Below.refl w.heap.size w)
 have H : ((levyref1_looked.f k (([(⟨a0_0, a0_1⟩ : S23)] : List (S23)))).bind fun bt637 => (if bt637.2.2 = true then (some (bt637.1, bt637.2.1)) else (if a0_0 = 1 then ((levyref1_within.f a1 (-1000000000) 1000000000).bind fun t641 => (if t641 = true then ((levyref1_within.f a2 1 1000000000).bind fun t642 => (if t642 = true then ((levyref1_isMode.f a3).bind fun t643 => (levyref1_Scale.j0 k a1 a2 a3 (!t643) a0_0 a0_1)) else (levyref1_Scale.j0 k a1 a2 a3 true a0_0 a0_1))) else (levyref1_Scale.j0 k a1 a2 a3 true a0_0 a0_1))) else (levyref1_Scale.j0 k a1 a2 a3 true a0_0 a0_1)))) = some (r1, r2) := h
 clear h
 obtain ⟨y634, hy634⟩ : ∃ y_ : List (S23), y_ = (([(⟨a0_0, a0_1⟩ : S23)] : List (S23))) := ⟨_, rfl⟩
 replace H : ((levyref1_looked.f k y634).bind fun bt637 => (if bt637.2.2 = true then (some (bt637.1, bt637.2.1)) else (if a0_0 = 1 then ((levyref1_within.f a1 (-1000000000) 1000000000).bind fun t641 => (if t641 = true then ((levyref1_within.f a2 1 1000000000).bind fun t642 => (if t642 = true then ((levyref1_isMode.f a3).bind fun t643 => (levyref1_Scale.j0 k a1 a2 a3 (!t643) a0_0 a0_1)) else (levyref1_Scale.j0 k a1 a2 a3 true a0_0 a0_1))) else (levyref1_Scale.j0 k a1 a2 a3 true a0_0 a0_1))) else (levyref1_Scale.j0 k a1 a2 a3 true a0_0 a0_1)))) = some (r1, r2) := by first | (rw [hy634]; with_reducible exact H) | (have H2_ := (Option.bind_some _ _).symm.trans H; rw [hy634]; with_reducible exact H2_) | (have H2_ := (Option.bind_some _ _).symm.trans H; with_reducible exact H2_) | with_reducible exact H | (rw [hy634]; exact H) | exact H
 have Ny634 := Aside0.mk hy634
 clear hy634
 replace H := Option.bind_eq_some_iff.mp H
 obtain ⟨⟨t637, t638, t639⟩, A50, H⟩ := H
 replace H : (if t639 = true then (some (t637, t638)) else (if a0_0 = 1 then ((levyref1_within.f a1 (-1000000000) 1000000000).bind fun t641 => (if t641 = true then ((levyref1_within.f a2 1 1000000000).bind fun t642 => (if t642 = true then ((levyref1_isMode.f a3).bind fun t643 => (levyref1_Scale.j0 k a1 a2 a3 (!t643) a0_0 a0_1)) else (levyref1_Scale.j0 k a1 a2 a3 true a0_0 a0_1))) else (levyref1_Scale.j0 k a1 a2 a3 true a0_0 a0_1))) else (levyref1_Scale.j0 k a1 a2 a3 true a0_0 a0_1))) = some (r1, r2) := H
 have A5 := Aside0.mk A50
 clear A50
 by_cases c6 : t639 = true
 ·subst c6
  have H1 : (some (t637, t638)) = some (r1, r2) := by rw [if_pos rfl] at H; exact H
  clear H
  have H := H1
  clear H1
  simp only [Option.some.injEq, Prod.mk.injEq] at H
  obtain ⟨rfl, rfl⟩ := H
  go_enter Tryd.func50, Tryd.ntmps50
  go_wp2_with (first | ((with_reducible refine gate_dst (N := 4) rfl ?_); refine box_event ?hg (N := 4) ?hd (cs := #[.int .i64 a0_0, .int .i64 a0_1]) (t := 23) ?hr ?_; (case hd => rfl); (case hg => rfl); (case hr => first | (go_simp; done) | (go_simp; rfl)); intro gb632 hg w7 hbox hb; have n0_ := Aside0.mk (below_step blx hb); have n1_ := Aside0.mk (hbox); have n2_ := Aside0.mk ((by rw [hg]; exact (below_size blx) : w.heap.size ≤ gb632)); have n3_ := Aside0.mk ((by rw [hg]; exact (below_size blx) : w.heap.size ≤ gb632)); clear HB; have HB := n0_; have BK632 := n1_; have GW632 := n2_; have GE632 := n3_; clear n0_ n1_ n2_ n3_; clear hb hbox hg) | ((with_reducible refine gate_dst (N := 8) rfl ?_); refine box_event ?hg (N := 8) ?hd (cs := #[.int .i64 0, .int .i64 0]) (t := 23) ?hr ?_; (case hd => rfl); (case hg => rfl); (case hr => first | (go_simp; done) | (go_simp; rfl)); intro gb633 hg w8 hbox hb; have n0_ := Aside0.mk (blk_below (g := gb632) (o := .cells #[.int .i64 a0_0, .int .i64 a0_1] 23 (0, 0)) bkx hb); have n1_ := Aside0.mk (below_step blx hb); have n2_ := Aside0.mk (hbox); have n3_ := Aside0.mk ((by rw [hg]; exact (below_size blx) : w.heap.size ≤ gb633)); have n4_ := Aside0.mk ((by rw [hg]; exact (below_size blx) : w.heap.size ≤ gb633)); have n5_ := Aside0.mk ((by rw [hg]; exact Nat.ne_of_lt (blk_lt (g := gb632) (o := .cells #[.int .i64 a0_0, .int .i64 a0_1] 23 (0, 0)) bkx) : gb632 ≠ gb633)); have n6_ := Aside0.mk ((by rw [hg]; exact Nat.ne_of_gt (blk_lt (g := gb632) (o := .cells #[.int .i64 a0_0, .int .i64 a0_1] 23 (0, 0)) bkx) : gb633 ≠ gb632)); clear BK632; clear HB; have BK632 := n0_; have HB := n1_; have BK633 := n2_; have GW633 := n3_; have GE633 := n4_; have NB632_633 := n5_; have NB633_632 := n6_; clear n0_ n1_ n2_ n3_ n4_ n5_ n6_; clear hb hbox hg; have hnb9 := NB632_633.out; have hnc9 := NB633_632.out; have hcz10_0 : w8.cell? ⟨gb632, 0, none⟩ = some (.int .i64 a0_0) := (blk_cell BK632.out 0).trans rfl; have hcz10_1 : w8.cell? ⟨gb632, 1, none⟩ = some (.int .i64 a0_1) := (blk_cell BK632.out 1).trans rfl; have hfz10_0 := blk_frozen BK632.out 0; have hfz10_1 := blk_frozen BK632.out 1) | ((with_reducible refine gate_dst (N := 14) rfl ?_); refine Kd.R_lit k23 _ 23 ?hg (N := 14) ?hd (xs := ([(⟨a0_0, a0_1⟩ : S23)] : List (S23))) (inner := [.int .i64 a0_0, .int .i64 a0_1]) (ok := fun _ => True) (okp := fun _ => True) ?hr ?hp (fun _ hk => hk) trivial (Below.refl _ _) (Nat.le_refl _) (by simp) ?_; (case hd => rfl); (case hg => rfl); (case hr => first | (go_simp; done) | (go_simp; rfl)); (case hp => exact (Reps.c2 (show Kd.M k23 _ _ _ (⟨a0_0, a0_1⟩ : S23) [.int .i64 a0_0, .int .i64 a0_1] from (k23_mkM _ _ _ (⟨a0_0, a0_1⟩ : S23) )) (Reps.none _ _))); intro v635 w11 ho12 hb hg_ hnew_; clear hg_ hnew_; (first | rw [← Ny634.out] at ho12 | (simp only [Int.reduceToNat] at ho12; rw [← Ny634.out] at ho12)); have n0_ := Aside0.mk (Kd.R_lower (Kd.R_newB (Kd.R_newB ho12 (g := gb632) (o := .cells #[.int .i64 a0_0, .int .i64 a0_1] 23 (0, 0)) bkx) (g := gb633) (o := .cells #[.int .i64 0, .int .i64 0] 23 (0, 0)) bkx) (below_size blx)); have n1_ := Aside0.mk (blk_below (g := gb632) (o := .cells #[.int .i64 a0_0, .int .i64 a0_1] 23 (0, 0)) bkx hb); have n2_ := Aside0.mk (blk_below (g := gb633) (o := .cells #[.int .i64 0, .int .i64 0] 23 (0, 0)) bkx hb); have n3_ := Aside0.mk (below_step blx hb); clear BK632; clear BK633; clear HB; have HO636 := n0_; have BK632 := n1_; have BK633 := n2_; have HB := n3_; clear n0_ n1_ n2_ n3_; clear hb ho12; obtain ⟨Ao13, co13, eo13⟩ := Kd.R_slice HO636.out; subst eo13) | ((with_reducible refine gate_callee (f := 63) rfl ?_); refine goesL_ (some 15) rfl rfl Tryd.func63 (by kernel_rfl) rfl #[.slice Ao13 y634.length co13] rfl agx ?_; (with_reducible refine (levyref1_looked.calls k _ _ y634 t637 t638 true _ ?side1 ?side2 A5.out).mono ?_); (case side1 => repeat (first | exact (Kd.R_reads' HO636.out).2.2 | (with_reducible refine Kd.C_alloc ?_ _) | (with_reducible refine Kd.C_drewN ?_ _) | (with_reducible refine Kd.C_drew ?_))); (case side2 => exact (Kd.R_reads' HO636.out).2.1); rintro e w14 ⟨rfl, hb⟩; refine ⟨_, rfl, ?_⟩; have n0_ := Aside0.mk (Kd.R_below (by (with_reducible repeat (first | apply Kd.R_alloc | apply Kd.R_drewN | apply Kd.R_drew)); exact HO636.out) hb); have n1_ := Aside0.mk (blk_below (g := gb632) (o := .cells #[.int .i64 a0_0, .int .i64 a0_1] 23 (0, 0)) bkx hb); have n2_ := Aside0.mk (blk_below (g := gb633) (o := .cells #[.int .i64 0, .int .i64 0] 23 (0, 0)) bkx hb); have n3_ := Aside0.mk (below_step blx hb); clear HO636; clear BK632; clear BK633; clear HB; have HO636 := n0_; have BK632 := n1_; have BK633 := n2_; have HB := n3_; clear n0_ n1_ n2_ n3_; (try clear hb); (try clear hb2); (try clear hk); (try clear hi)) | ((with_reducible refine gate_dst (N := 9) rfl ?_); refine box_event ?hg (N := 9) ?hd (cs := #[.int .i64 0, .int .i64 0]) (t := 23) ?hr ?_; (case hd => rfl); (case hg => rfl); (case hr => first | (go_simp; done) | (go_simp; rfl)); intro gb640 hg w15 hbox hb; have n0_ := Aside0.mk (Kd.R_below (Kd.R_elderB (by (with_reducible repeat (first | apply Kd.R_alloc | apply Kd.R_drewN | apply Kd.R_drew)); exact HO636.out) gb640 (Nat.le_of_eq hg.symm)) hb); have n1_ := Aside0.mk (blk_below (g := gb632) (o := .cells #[.int .i64 a0_0, .int .i64 a0_1] 23 (0, 0)) bkx hb); have n2_ := Aside0.mk (blk_below (g := gb633) (o := .cells #[.int .i64 0, .int .i64 0] 23 (0, 0)) bkx hb); have n3_ := Aside0.mk (below_step blx hb); have n4_ := Aside0.mk (hbox); have n5_ := Aside0.mk ((by rw [hg]; exact (below_size blx) : w.heap.size ≤ gb640)); have n6_ := Aside0.mk ((by rw [hg]; exact (below_size blx) : w.heap.size ≤ gb640)); have n7_ := Aside0.mk ((by rw [hg]; exact Nat.ne_of_lt (blk_lt (g := gb632) (o := .cells #[.int .i64 a0_0, .int .i64 a0_1] 23 (0, 0)) bkx) : gb632 ≠ gb640)); have n8_ := Aside0.mk ((by rw [hg]; exact Nat.ne_of_gt (blk_lt (g := gb632) (o := .cells #[.int .i64 a0_0, .int .i64 a0_1] 23 (0, 0)) bkx) : gb640 ≠ gb632)); have n9_ := Aside0.mk ((by rw [hg]; exact Nat.ne_of_lt (blk_lt (g := gb633) (o := .cells #[.int .i64 0, .int .i64 0] 23 (0, 0)) bkx) : gb633 ≠ gb640)); have n10_ := Aside0.mk ((by rw [hg]; exact Nat.ne_of_gt (blk_lt (g := gb633) (o := .cells #[.int .i64 0, .int .i64 0] 23 (0, 0)) bkx) : gb640 ≠ gb633)); clear HO636; clear BK632; clear BK633; clear HB; have HO636 := n0_; have BK632 := n1_; have BK633 := n2_; have HB := n3_; have BK640 := n4_; have GW640 := n5_; have GE640 := n6_; have NB632_640 := n7_; have NB640_632 := n8_; have NB633_640 := n9_; have NB640_633 := n10_; clear n0_ n1_ n2_ n3_ n4_ n5_ n6_ n7_ n8_ n9_ n10_; clear hb hbox hg; have hnb16 := NB640_632.out; have hnc16 := NB632_640.out; have hnb17 := NB640_633.out; have hnc17 := NB633_640.out; have hcz18_0 : w15.cell? ⟨gb640, 0, none⟩ = some (.int .i64 0) := (blk_cell BK640.out 0).trans rfl; have hcz18_1 : w15.cell? ⟨gb640, 1, none⟩ = some (.int .i64 0) := (blk_cell BK640.out 1).trans rfl; have hfz18_0 := blk_frozen BK640.out 0; have hfz18_1 := blk_frozen BK640.out 1; have hcz19_0 : w15.cell? ⟨gb633, 0, none⟩ = some (.int .i64 0) := (blk_cell BK633.out 0).trans rfl; have hcz19_1 : w15.cell? ⟨gb633, 1, none⟩ = some (.int .i64 0) := (blk_cell BK633.out 1).trans rfl; have hfz19_0 := blk_frozen BK633.out 0; have hfz19_1 := blk_frozen BK633.out 1))
  refine bodyPost_ret (results_cell_row rfl _ _ gb633 23 #[.int .i64 t637, .int .i64 t638] (0, 0) _ rfl (by (with_reducible repeat (first | refine blk_drewN ?_ _ | refine blk_drew ?_ | refine blk_alloc ?_ _)); refine blk_put (cs := #[.int .i64 t637, .int .i64 0]) ?_ 1 _ rfl; (with_reducible repeat (first | refine blk_drewN ?_ _ | refine blk_drew ?_ | refine blk_alloc ?_ _)); refine blk_put (cs := #[.int .i64 0, .int .i64 0]) ?_ 0 _ rfl; (with_reducible repeat (first | refine blk_drewN ?_ _ | refine blk_drew ?_ | refine blk_alloc ?_ _)); refine blk_far ?_ NB633_640.out _; (with_reducible repeat (first | refine blk_drewN ?_ _ | refine blk_drew ?_ | refine blk_alloc ?_ _)); refine blk_far ?_ NB633_640.out _; (with_reducible repeat (first | refine blk_drewN ?_ _ | refine blk_drew ?_ | refine blk_alloc ?_ _)); exact BK633.out) Tryd.underlying23 rfl (by kernel_rfl)) rfl ?_
  exact ⟨by first | rfl | (simp [errW_none, errW_some] <;> rfl) | (simp [*, errW_none, errW_some] <;> rfl), blx⟩
 ·replace c6 := Bool.eq_false_iff.mpr c6
  subst c6
  have H1 : (if a0_0 = 1 then ((levyref1_within.f a1 (-1000000000) 1000000000).bind fun t641 => (if t641 = true then ((levyref1_within.f a2 1 1000000000).bind fun t642 => (if t642 = true then ((levyref1_isMode.f a3).bind fun t643 => (levyref1_Scale.j0 k a1 a2 a3 (!t643) a0_0 a0_1)) else (levyref1_Scale.j0 k a1 a2 a3 true a0_0 a0_1))) else (levyref1_Scale.j0 k a1 a2 a3 true a0_0 a0_1))) else (levyref1_Scale.j0 k a1 a2 a3 true a0_0 a0_1)) = some (r1, r2) := by rw [if_neg (show ¬ (false = true) by decide)] at H; exact H
  clear H
  have H := H1
  clear H1
  have HC20 := Aside0.mk H
  clear H
  go_enter Tryd.func50, Tryd.ntmps50
  go_upto_region 4 with (first | ((with_reducible refine gate_dst (N := 4) rfl ?_); refine box_event ?hg (N := 4) ?hd (cs := #[.int .i64 a0_0, .int .i64 a0_1]) (t := 23) ?hr ?_; (case hd => rfl); (case hg => rfl); (case hr => first | (go_simp; done) | (go_simp; rfl)); intro gb632 hg w21 hbox hb; have n0_ := Aside0.mk (below_step blx hb); have n1_ := Aside0.mk (hbox); have n2_ := Aside0.mk ((by rw [hg]; exact (below_size blx) : w.heap.size ≤ gb632)); have n3_ := Aside0.mk ((by rw [hg]; exact (below_size blx) : w.heap.size ≤ gb632)); clear HB; have HB := n0_; have BK632 := n1_; have GW632 := n2_; have GE632 := n3_; clear n0_ n1_ n2_ n3_; clear hb hbox hg) | ((with_reducible refine gate_dst (N := 8) rfl ?_); refine box_event ?hg (N := 8) ?hd (cs := #[.int .i64 0, .int .i64 0]) (t := 23) ?hr ?_; (case hd => rfl); (case hg => rfl); (case hr => first | (go_simp; done) | (go_simp; rfl)); intro gb633 hg w22 hbox hb; have n0_ := Aside0.mk (blk_below (g := gb632) (o := .cells #[.int .i64 a0_0, .int .i64 a0_1] 23 (0, 0)) bkx hb); have n1_ := Aside0.mk (below_step blx hb); have n2_ := Aside0.mk (hbox); have n3_ := Aside0.mk ((by rw [hg]; exact (below_size blx) : w.heap.size ≤ gb633)); have n4_ := Aside0.mk ((by rw [hg]; exact (below_size blx) : w.heap.size ≤ gb633)); have n5_ := Aside0.mk ((by rw [hg]; exact Nat.ne_of_lt (blk_lt (g := gb632) (o := .cells #[.int .i64 a0_0, .int .i64 a0_1] 23 (0, 0)) bkx) : gb632 ≠ gb633)); have n6_ := Aside0.mk ((by rw [hg]; exact Nat.ne_of_gt (blk_lt (g := gb632) (o := .cells #[.int .i64 a0_0, .int .i64 a0_1] 23 (0, 0)) bkx) : gb633 ≠ gb632)); clear BK632; clear HB; have BK632 := n0_; have HB := n1_; have BK633 := n2_; have GW633 := n3_; have GE633 := n4_; have NB632_633 := n5_; have NB633_632 := n6_; clear n0_ n1_ n2_ n3_ n4_ n5_ n6_; clear hb hbox hg; have hnb23 := NB632_633.out; have hnc23 := NB633_632.out; have hcz24_0 : w22.cell? ⟨gb632, 0, none⟩ = some (.int .i64 a0_0) := (blk_cell BK632.out 0).trans rfl; have hcz24_1 : w22.cell? ⟨gb632, 1, none⟩ = some (.int .i64 a0_1) := (blk_cell BK632.out 1).trans rfl; have hfz24_0 := blk_frozen BK632.out 0; have hfz24_1 := blk_frozen BK632.out 1) | ((with_reducible refine gate_dst (N := 14) rfl ?_); refine Kd.R_lit k23 _ 23 ?hg (N := 14) ?hd (xs := ([(⟨a0_0, a0_1⟩ : S23)] : List (S23))) (inner := [.int .i64 a0_0, .int .i64 a0_1]) (ok := fun _ => True) (okp := fun _ => True) ?hr ?hp (fun _ hk => hk) trivial (Below.refl _ _) (Nat.le_refl _) (by simp) ?_; (case hd => rfl); (case hg => rfl); (case hr => first | (go_simp; done) | (go_simp; rfl)); (case hp => exact (Reps.c2 (show Kd.M k23 _ _ _ (⟨a0_0, a0_1⟩ : S23) [.int .i64 a0_0, .int .i64 a0_1] from (k23_mkM _ _ _ (⟨a0_0, a0_1⟩ : S23) )) (Reps.none _ _))); intro v635 w25 ho26 hb hg_ hnew_; clear hg_ hnew_; (first | rw [← Ny634.out] at ho26 | (simp only [Int.reduceToNat] at ho26; rw [← Ny634.out] at ho26)); have n0_ := Aside0.mk (Kd.R_lower (Kd.R_newB (Kd.R_newB ho26 (g := gb632) (o := .cells #[.int .i64 a0_0, .int .i64 a0_1] 23 (0, 0)) bkx) (g := gb633) (o := .cells #[.int .i64 0, .int .i64 0] 23 (0, 0)) bkx) (below_size blx)); have n1_ := Aside0.mk (blk_below (g := gb632) (o := .cells #[.int .i64 a0_0, .int .i64 a0_1] 23 (0, 0)) bkx hb); have n2_ := Aside0.mk (blk_below (g := gb633) (o := .cells #[.int .i64 0, .int .i64 0] 23 (0, 0)) bkx hb); have n3_ := Aside0.mk (below_step blx hb); clear BK632; clear BK633; clear HB; have HO636 := n0_; have BK632 := n1_; have BK633 := n2_; have HB := n3_; clear n0_ n1_ n2_ n3_; clear hb ho26; obtain ⟨Ao27, co27, eo27⟩ := Kd.R_slice HO636.out; subst eo27) | ((with_reducible refine gate_callee (f := 63) rfl ?_); refine goesL_ (some 15) rfl rfl Tryd.func63 (by kernel_rfl) rfl #[.slice Ao27 y634.length co27] rfl agx ?_; (with_reducible refine (levyref1_looked.calls k _ _ y634 t637 t638 false _ ?side1 ?side2 A5.out).mono ?_); (case side1 => repeat (first | exact (Kd.R_reads' HO636.out).2.2 | (with_reducible refine Kd.C_alloc ?_ _) | (with_reducible refine Kd.C_drewN ?_ _) | (with_reducible refine Kd.C_drew ?_))); (case side2 => exact (Kd.R_reads' HO636.out).2.1); rintro e w28 ⟨rfl, hb⟩; refine ⟨_, rfl, ?_⟩; have n0_ := Aside0.mk (Kd.R_below (by (with_reducible repeat (first | apply Kd.R_alloc | apply Kd.R_drewN | apply Kd.R_drew)); exact HO636.out) hb); have n1_ := Aside0.mk (blk_below (g := gb632) (o := .cells #[.int .i64 a0_0, .int .i64 a0_1] 23 (0, 0)) bkx hb); have n2_ := Aside0.mk (blk_below (g := gb633) (o := .cells #[.int .i64 0, .int .i64 0] 23 (0, 0)) bkx hb); have n3_ := Aside0.mk (below_step blx hb); clear HO636; clear BK632; clear BK633; clear HB; have HO636 := n0_; have BK632 := n1_; have BK633 := n2_; have HB := n3_; clear n0_ n1_ n2_ n3_; (try clear hb); (try clear hb2); (try clear hk); (try clear hi)) | ((with_reducible refine gate_dst (N := 9) rfl ?_); refine box_event ?hg (N := 9) ?hd (cs := #[.int .i64 0, .int .i64 0]) (t := 23) ?hr ?_; (case hd => rfl); (case hg => rfl); (case hr => first | (go_simp; done) | (go_simp; rfl)); intro gb640 hg w29 hbox hb; have n0_ := Aside0.mk (Kd.R_below (Kd.R_elderB (by (with_reducible repeat (first | apply Kd.R_alloc | apply Kd.R_drewN | apply Kd.R_drew)); exact HO636.out) gb640 (Nat.le_of_eq hg.symm)) hb); have n1_ := Aside0.mk (blk_below (g := gb632) (o := .cells #[.int .i64 a0_0, .int .i64 a0_1] 23 (0, 0)) bkx hb); have n2_ := Aside0.mk (blk_below (g := gb633) (o := .cells #[.int .i64 0, .int .i64 0] 23 (0, 0)) bkx hb); have n3_ := Aside0.mk (below_step blx hb); have n4_ := Aside0.mk (hbox); have n5_ := Aside0.mk ((by rw [hg]; exact (below_size blx) : w.heap.size ≤ gb640)); have n6_ := Aside0.mk ((by rw [hg]; exact (below_size blx) : w.heap.size ≤ gb640)); have n7_ := Aside0.mk ((by rw [hg]; exact Nat.ne_of_lt (blk_lt (g := gb632) (o := .cells #[.int .i64 a0_0, .int .i64 a0_1] 23 (0, 0)) bkx) : gb632 ≠ gb640)); have n8_ := Aside0.mk ((by rw [hg]; exact Nat.ne_of_gt (blk_lt (g := gb632) (o := .cells #[.int .i64 a0_0, .int .i64 a0_1] 23 (0, 0)) bkx) : gb640 ≠ gb632)); have n9_ := Aside0.mk ((by rw [hg]; exact Nat.ne_of_lt (blk_lt (g := gb633) (o := .cells #[.int .i64 0, .int .i64 0] 23 (0, 0)) bkx) : gb633 ≠ gb640)); have n10_ := Aside0.mk ((by rw [hg]; exact Nat.ne_of_gt (blk_lt (g := gb633) (o := .cells #[.int .i64 0, .int .i64 0] 23 (0, 0)) bkx) : gb640 ≠ gb633)); clear HO636; clear BK632; clear BK633; clear HB; have HO636 := n0_; have BK632 := n1_; have BK633 := n2_; have HB := n3_; have BK640 := n4_; have GW640 := n5_; have GE640 := n6_; have NB632_640 := n7_; have NB640_632 := n8_; have NB633_640 := n9_; have NB640_633 := n10_; clear n0_ n1_ n2_ n3_ n4_ n5_ n6_ n7_ n8_ n9_ n10_; clear hb hbox hg; have hnb30 := NB640_632.out; have hnc30 := NB632_640.out; have hnb31 := NB640_633.out; have hnc31 := NB633_640.out; have hcz32_0 : w29.cell? ⟨gb640, 0, none⟩ = some (.int .i64 0) := (blk_cell BK640.out 0).trans rfl; have hcz32_1 : w29.cell? ⟨gb640, 1, none⟩ = some (.int .i64 0) := (blk_cell BK640.out 1).trans rfl; have hfz32_0 := blk_frozen BK640.out 0; have hfz32_1 := blk_frozen BK640.out 1))
  (try simp only [Act.put, List.setIfInBounds_toArray, List.set_cons_zero, List.set_cons_succ])
  go_cut [37] (fun v37 wc => ∃ (kq : Nat) (x37_19 : Bool), v37 = .bool x37_19 ∧ Aside0 (levyref1_Scale.j0 kq a1 a2 a3 x37_19 a0_0 a0_1 = some (r1, r2)) ∧ Aside0 (kq ≤ k) ∧ Aside0 (wc.heap[gb632]? = some (.cells #[.int .i64 a0_0, .int .i64 a0_1] 23 (0, 0))) ∧ Aside0 (wc.heap[gb633]? = some (.cells #[.int .i64 0, .int .i64 0] 23 (0, 0))) ∧ Aside0 (wc.heap[gb640]? = some (.cells #[.int .i64 t637, .int .i64 t638] 23 (0, 0))) ∧ Aside0 (Below w.heap.size w wc))
  case first =>
   have H := HC20.out
   clear HC20
   by_cases c33 : a0_0 = 1
   ·rw [if_pos c33] at H
    have c33b0 : (a0_0 == 1) = true := beq_iff_eq.mpr c33
    have c33b1 : (a0_0 != 1) = false := bne_eq_false_iff_eq.mpr c33
    clear c33
    (first | rw [c33b0] | (simp only [i64_w, i32_w]; rw [c33b0]) | skip)
    replace H := Option.bind_eq_some_iff.mp H
    obtain ⟨t641, A340, H⟩ := H
    replace H : (if t641 = true then ((levyref1_within.f a2 1 1000000000).bind fun t642 => (if t642 = true then ((levyref1_isMode.f a3).bind fun t643 => (levyref1_Scale.j0 k a1 a2 a3 (!t643) a0_0 a0_1)) else (levyref1_Scale.j0 k a1 a2 a3 true a0_0 a0_1))) else (levyref1_Scale.j0 k a1 a2 a3 true a0_0 a0_1)) = some (r1, r2) := H
    have A34 := Aside0.mk A340
    clear A340
    by_cases c35 : t641 = true
    ·subst c35
     have H1 : ((levyref1_within.f a2 1 1000000000).bind fun t642 => (if t642 = true then ((levyref1_isMode.f a3).bind fun t643 => (levyref1_Scale.j0 k a1 a2 a3 (!t643) a0_0 a0_1)) else (levyref1_Scale.j0 k a1 a2 a3 true a0_0 a0_1))) = some (r1, r2) := by rw [if_pos rfl] at H; exact H
     clear H
     have H := H1
     clear H1
     replace H := Option.bind_eq_some_iff.mp H
     obtain ⟨t642, A360, H⟩ := H
     replace H : (if t642 = true then ((levyref1_isMode.f a3).bind fun t643 => (levyref1_Scale.j0 k a1 a2 a3 (!t643) a0_0 a0_1)) else (levyref1_Scale.j0 k a1 a2 a3 true a0_0 a0_1)) = some (r1, r2) := H
     have A36 := Aside0.mk A360
     clear A360
     by_cases c37 : t642 = true
     ·subst c37
      have H1 : ((levyref1_isMode.f a3).bind fun t643 => (levyref1_Scale.j0 k a1 a2 a3 (!t643) a0_0 a0_1)) = some (r1, r2) := by rw [if_pos rfl] at H; exact H
      clear H
      have H := H1
      clear H1
      replace H := Option.bind_eq_some_iff.mp H
      obtain ⟨t643, A380, H⟩ := H
      replace H : (levyref1_Scale.j0 k a1 a2 a3 (!t643) a0_0 a0_1) = some (r1, r2) := H
      have A38 := Aside0.mk A380
      clear A380
      have H' := Aside0.mk H
      clear H
      have hnb39 := NB632_633.out
      have hnc39 := NB633_632.out
      have hnb40 := NB632_640.out
      have hnc40 := NB640_632.out
      have hcz41_0 : w29.cell? ⟨gb632, 0, none⟩ = some (.int .i64 a0_0) := (blk_cell BK632.out 0).trans rfl
      have hcz41_1 : w29.cell? ⟨gb632, 1, none⟩ = some (.int .i64 a0_1) := (blk_cell BK632.out 1).trans rfl
      have hfz41_0 := blk_frozen BK632.out 0
      have hfz41_1 := blk_frozen BK632.out 1
      go_wp2_with (first | (go_at_call 56; (with_reducible refine (levyref1_within.calls a1 (-1000000000) 1000000000 true _ A34.out).mono ?_); rintro e w' ⟨rfl, ⟨nd, rfl⟩⟩) | (go_at_call 56; (with_reducible refine (levyref1_within.calls a2 1 1000000000 true _ A36.out).mono ?_); rintro e w' ⟨rfl, ⟨nd, rfl⟩⟩) | (go_at_call 70; (with_reducible refine (levyref1_isMode.calls a3 t643 _ A38.out).mono ?_); rintro e w' ⟨rfl, ⟨nd, rfl⟩⟩))
      go_meet
      case rel => exact ⟨_, (!t643), (by first | rfl | (simp; done) | (simp [*]; done)), H', ⟨by first | omega | exact Nat.le_refl _⟩, ⟨bkx⟩, ⟨bkx⟩, ⟨by (with_reducible repeat (first | refine blk_drewN ?_ _ | refine blk_drew ?_ | refine blk_alloc ?_ _)); refine blk_put (cs := #[.int .i64 t637, .int .i64 0]) ?_ 1 _ rfl; (with_reducible repeat (first | refine blk_drewN ?_ _ | refine blk_drew ?_ | refine blk_alloc ?_ _)); refine blk_put (cs := #[.int .i64 0, .int .i64 0]) ?_ 0 _ rfl; (with_reducible repeat (first | refine blk_drewN ?_ _ | refine blk_drew ?_ | refine blk_alloc ?_ _)); exact BK640.out⟩, ⟨blx⟩⟩
     ·replace c37 := Bool.eq_false_iff.mpr c37
      subst c37
      have H1 : (levyref1_Scale.j0 k a1 a2 a3 true a0_0 a0_1) = some (r1, r2) := by rw [if_neg (show ¬ (false = true) by decide)] at H; exact H
      clear H
      have H := H1
      clear H1
      have H' := Aside0.mk H
      clear H
      have hnb42 := NB632_633.out
      have hnc42 := NB633_632.out
      have hnb43 := NB632_640.out
      have hnc43 := NB640_632.out
      have hcz44_0 : w29.cell? ⟨gb632, 0, none⟩ = some (.int .i64 a0_0) := (blk_cell BK632.out 0).trans rfl
      have hcz44_1 : w29.cell? ⟨gb632, 1, none⟩ = some (.int .i64 a0_1) := (blk_cell BK632.out 1).trans rfl
      have hfz44_0 := blk_frozen BK632.out 0
      have hfz44_1 := blk_frozen BK632.out 1
      go_wp2_with (first | (go_at_call 56; (with_reducible refine (levyref1_within.calls a1 (-1000000000) 1000000000 true _ A34.out).mono ?_); rintro e w' ⟨rfl, ⟨nd, rfl⟩⟩) | (go_at_call 56; (with_reducible refine (levyref1_within.calls a2 1 1000000000 false _ A36.out).mono ?_); rintro e w' ⟨rfl, ⟨nd, rfl⟩⟩))
      go_meet
      case rel => exact ⟨_, (true), (by first | rfl | (simp; done) | (simp [*]; done)), H', ⟨by first | omega | exact Nat.le_refl _⟩, ⟨bkx⟩, ⟨bkx⟩, ⟨by (with_reducible repeat (first | refine blk_drewN ?_ _ | refine blk_drew ?_ | refine blk_alloc ?_ _)); refine blk_put (cs := #[.int .i64 t637, .int .i64 0]) ?_ 1 _ rfl; (with_reducible repeat (first | refine blk_drewN ?_ _ | refine blk_drew ?_ | refine blk_alloc ?_ _)); refine blk_put (cs := #[.int .i64 0, .int .i64 0]) ?_ 0 _ rfl; (with_reducible repeat (first | refine blk_drewN ?_ _ | refine blk_drew ?_ | refine blk_alloc ?_ _)); exact BK640.out⟩, ⟨blx⟩⟩
    ·replace c35 := Bool.eq_false_iff.mpr c35
     subst c35
     have H1 : (levyref1_Scale.j0 k a1 a2 a3 true a0_0 a0_1) = some (r1, r2) := by rw [if_neg (show ¬ (false = true) by decide)] at H; exact H
     clear H
     have H := H1
     clear H1
     have H' := Aside0.mk H
     clear H
     have hnb45 := NB632_633.out
     have hnc45 := NB633_632.out
     have hnb46 := NB632_640.out
     have hnc46 := NB640_632.out
     have hcz47_0 : w29.cell? ⟨gb632, 0, none⟩ = some (.int .i64 a0_0) := (blk_cell BK632.out 0).trans rfl
     have hcz47_1 : w29.cell? ⟨gb632, 1, none⟩ = some (.int .i64 a0_1) := (blk_cell BK632.out 1).trans rfl
     have hfz47_0 := blk_frozen BK632.out 0
     have hfz47_1 := blk_frozen BK632.out 1
     go_wp2_with (first | (go_at_call 56; (with_reducible refine (levyref1_within.calls a1 (-1000000000) 1000000000 false _ A34.out).mono ?_); rintro e w' ⟨rfl, ⟨nd, rfl⟩⟩))
     go_meet
     case rel => exact ⟨_, (true), (by first | rfl | (simp; done) | (simp [*]; done)), H', ⟨by first | omega | exact Nat.le_refl _⟩, ⟨bkx⟩, ⟨bkx⟩, ⟨by (with_reducible repeat (first | refine blk_drewN ?_ _ | refine blk_drew ?_ | refine blk_alloc ?_ _)); refine blk_put (cs := #[.int .i64 t637, .int .i64 0]) ?_ 1 _ rfl; (with_reducible repeat (first | refine blk_drewN ?_ _ | refine blk_drew ?_ | refine blk_alloc ?_ _)); refine blk_put (cs := #[.int .i64 0, .int .i64 0]) ?_ 0 _ rfl; (with_reducible repeat (first | refine blk_drewN ?_ _ | refine blk_drew ?_ | refine blk_alloc ?_ _)); exact BK640.out⟩, ⟨blx⟩⟩
   ·rw [if_neg c33] at H
    have c33b0 : (a0_0 == 1) = false := beq_eq_false_iff_ne.mpr c33
    have c33b1 : (a0_0 != 1) = true := bne_iff_ne.mpr c33
    (first | rw [c33b0] | (simp only [i64_w, i32_w]; rw [c33b0]) | skip)
    have H' := Aside0.mk H
    clear H
    have hnb48 := NB632_633.out
    have hnc48 := NB633_632.out
    have hnb49 := NB632_640.out
    have hnc49 := NB640_632.out
    have hcz50_0 : w29.cell? ⟨gb632, 0, none⟩ = some (.int .i64 a0_0) := (blk_cell BK632.out 0).trans rfl
    have hcz50_1 : w29.cell? ⟨gb632, 1, none⟩ = some (.int .i64 a0_1) := (blk_cell BK632.out 1).trans rfl
    have hfz50_0 := blk_frozen BK632.out 0
    have hfz50_1 := blk_frozen BK632.out 1
    go_wp2
    go_meet
    case rel => exact ⟨_, (true), (by first | rfl | (simp; done) | (simp [*]; done)), H', ⟨by first | omega | exact Nat.le_refl _⟩, ⟨bkx⟩, ⟨bkx⟩, ⟨by (with_reducible repeat (first | refine blk_drewN ?_ _ | refine blk_drew ?_ | refine blk_alloc ?_ _)); refine blk_put (cs := #[.int .i64 t637, .int .i64 0]) ?_ 1 _ rfl; (with_reducible repeat (first | refine blk_drewN ?_ _ | refine blk_drew ?_ | refine blk_alloc ?_ _)); refine blk_put (cs := #[.int .i64 0, .int .i64 0]) ?_ 0 _ rfl; (with_reducible repeat (first | refine blk_drewN ?_ _ | refine blk_drew ?_ | refine blk_alloc ?_ _)); exact BK640.out⟩, ⟨blx⟩⟩
  case rest =>
   clear HC20
   try clear c1
   try clear c2
   try clear p2
   try clear c3
   try clear c4
   try clear c5
   try clear c6
   try clear c9
   try clear c16
   try clear c17
   try clear c23
   try clear c30
   try clear c31
   try clear c33
   try clear c33b0
   try clear c33b1
   try clear c35
   try clear c37
   try clear c39
   try clear c40
   try clear c42
   try clear c43
   try clear c45
   try clear c46
   try clear c48
   try clear c49
   try clear c50
   try clear hcz10_0
   try clear hcz10_1
   try clear hcz18_0
   try clear hcz18_1
   try clear hcz19_0
   try clear hcz19_1
   try clear hcz24_0
   try clear hcz24_1
   try clear hcz32_0
   try clear hcz32_1
   try clear hcz41_0
   try clear hcz41_1
   try clear hcz44_0
   try clear hcz44_1
   try clear hcz47_0
   try clear hcz47_1
   try clear hcz50_0
   try clear hcz50_1
   try clear hfz10_0
   try clear hfz10_1
   try clear hfz18_0
   try clear hfz18_1
   try clear hfz19_0
   try clear hfz19_1
   try clear hfz24_0
   try clear hfz24_1
   try clear hfz32_0
   try clear hfz32_1
   try clear hfz41_0
   try clear hfz41_1
   try clear hfz44_0
   try clear hfz44_1
   try clear hfz47_0
   try clear hfz47_1
   try clear hfz50_0
   try clear hfz50_1
   obtain ⟨kq, x37_19, rfl, HA, HJ19, BK632, BK633, BK640, HB⟩ := hcut
   cases kq with
   | zero => exact absurd HA.out (by simp [levyref1_Scale.j0])
   | succ kj19 =>
    have H := HA.out
    clear HA
    simp only [levyref1_Scale.j0] at H
    by_cases c51 : x37_19 = true
    ·subst c51
     have H1 : ((levyref1_bad.f 5).bind fun bt644 => (some (bt644.1, bt644.2))) = some (r1, r2) := by rw [if_pos rfl] at H; exact H
     clear H
     have H := H1
     clear H1
     replace H := Option.bind_eq_some_iff.mp H
     obtain ⟨⟨t644, t645⟩, A520, H⟩ := H
     replace H : (some (t644, t645)) = some (r1, r2) := H
     have A52 := Aside0.mk A520
     clear A520
     simp only [Option.some.injEq, Prod.mk.injEq] at H
     obtain ⟨rfl, rfl⟩ := H
     go_wp2_with (first | ((with_reducible refine gate_callee (f := 57) rfl ?_); refine goesL_ (some 38) rfl rfl Tryd.func57 (by kernel_rfl) rfl #[.int .i64 5] rfl agx ?_; (with_reducible refine (levyref1_bad.calls 5 t644 t645 _ A52.out).mono ?_); rintro e w53 ⟨rfl, hb⟩; refine ⟨_, rfl, ?_⟩; have n0_ := Aside0.mk (blk_below (g := gb632) (o := .cells #[.int .i64 a0_0, .int .i64 a0_1] 23 (0, 0)) bkx hb); have n1_ := Aside0.mk (blk_below (g := gb633) (o := .cells #[.int .i64 0, .int .i64 0] 23 (0, 0)) bkx hb); have n2_ := Aside0.mk (blk_below (g := gb640) (o := .cells #[.int .i64 t637, .int .i64 t638] 23 (0, 0)) bkx hb); have n3_ := Aside0.mk (below_step blx hb); clear BK632; clear BK633; clear BK640; clear HB; have BK632 := n0_; have BK633 := n1_; have BK640 := n2_; have HB := n3_; clear n0_ n1_ n2_ n3_; (try clear hb); (try clear hb2); (try clear hk); (try clear hi); have hnb54 := NB633_632.out; have hnc54 := NB632_633.out; have hnb55 := NB633_640.out; have hnc55 := NB640_633.out; have hcz56_0 : w53.cell? ⟨gb633, 0, none⟩ = some (.int .i64 0) := (blk_cell BK633.out 0).trans rfl; have hcz56_1 : w53.cell? ⟨gb633, 1, none⟩ = some (.int .i64 0) := (blk_cell BK633.out 1).trans rfl; have hfz56_0 := blk_frozen BK633.out 0; have hfz56_1 := blk_frozen BK633.out 1))
     refine bodyPost_ret (results_cell_row rfl _ _ gb633 23 #[.int .i64 t644, .int .i64 t645] (0, 0) _ rfl (by (with_reducible repeat (first | refine blk_drewN ?_ _ | refine blk_drew ?_ | refine blk_alloc ?_ _)); refine blk_put (cs := #[.int .i64 t644, .int .i64 0]) ?_ 1 _ rfl; (with_reducible repeat (first | refine blk_drewN ?_ _ | refine blk_drew ?_ | refine blk_alloc ?_ _)); refine blk_put (cs := #[.int .i64 0, .int .i64 0]) ?_ 0 _ rfl; (with_reducible repeat (first | refine blk_drewN ?_ _ | refine blk_drew ?_ | refine blk_alloc ?_ _)); exact BK633.out) Tryd.underlying23 rfl (by kernel_rfl)) rfl ?_
     exact ⟨by first | rfl | (simp [errW_none, errW_some] <;> rfl) | (simp [*, errW_none, errW_some] <;> rfl), blx⟩
    ·replace c51 := Bool.eq_false_iff.mpr c51
     subst c51
     have H1 : ((levyref1_size.f a0_1).bind fun t646 => ((levyref1_digits.f kj19 t646).bind fun t647 => ((levyref1_size.f a1).bind fun t650 => ((levyref1_digits.f kj19 t650).bind fun t651 => ((levyref1_product.f kj19 t647 t651).bind fun t654 => ((levyref1_rounded.f kj19 t654 ((decide (a0_1 < 0)) != (decide (a1 < 0))) a2 a3).bind fun t657 => ((levyref1_bounded.f 1 t657).bind fun bt658 => (some (bt658.1, bt658.2))))))))) = some (r1, r2) := by rw [if_neg (show ¬ (false = true) by decide)] at H; exact H
     clear H
     have H := H1
     clear H1
     replace H := Option.bind_eq_some_iff.mp H
     obtain ⟨t646, A570, H⟩ := H
     replace H : ((levyref1_digits.f kj19 t646).bind fun t647 => ((levyref1_size.f a1).bind fun t650 => ((levyref1_digits.f kj19 t650).bind fun t651 => ((levyref1_product.f kj19 t647 t651).bind fun t654 => ((levyref1_rounded.f kj19 t654 ((decide (a0_1 < 0)) != (decide (a1 < 0))) a2 a3).bind fun t657 => ((levyref1_bounded.f 1 t657).bind fun bt658 => (some (bt658.1, bt658.2)))))))) = some (r1, r2) := H
     have A57 := Aside0.mk A570
     clear A570
     replace H := Option.bind_eq_some_iff.mp H
     obtain ⟨t647, A580, H⟩ := H
     replace H : ((levyref1_size.f a1).bind fun t650 => ((levyref1_digits.f kj19 t650).bind fun t651 => ((levyref1_product.f kj19 t647 t651).bind fun t654 => ((levyref1_rounded.f kj19 t654 ((decide (a0_1 < 0)) != (decide (a1 < 0))) a2 a3).bind fun t657 => ((levyref1_bounded.f 1 t657).bind fun bt658 => (some (bt658.1, bt658.2))))))) = some (r1, r2) := H
     have A58 := Aside0.mk A580
     clear A580
     replace H := Option.bind_eq_some_iff.mp H
     obtain ⟨t650, A590, H⟩ := H
     replace H : ((levyref1_digits.f kj19 t650).bind fun t651 => ((levyref1_product.f kj19 t647 t651).bind fun t654 => ((levyref1_rounded.f kj19 t654 ((decide (a0_1 < 0)) != (decide (a1 < 0))) a2 a3).bind fun t657 => ((levyref1_bounded.f 1 t657).bind fun bt658 => (some (bt658.1, bt658.2)))))) = some (r1, r2) := H
     have A59 := Aside0.mk A590
     clear A590
     replace H := Option.bind_eq_some_iff.mp H
     obtain ⟨t651, A600, H⟩ := H
     replace H : ((levyref1_product.f kj19 t647 t651).bind fun t654 => ((levyref1_rounded.f kj19 t654 ((decide (a0_1 < 0)) != (decide (a1 < 0))) a2 a3).bind fun t657 => ((levyref1_bounded.f 1 t657).bind fun bt658 => (some (bt658.1, bt658.2))))) = some (r1, r2) := H
     have A60 := Aside0.mk A600
     clear A600
     replace H := Option.bind_eq_some_iff.mp H
     obtain ⟨t654, A610, H⟩ := H
     replace H : ((levyref1_rounded.f kj19 t654 ((decide (a0_1 < 0)) != (decide (a1 < 0))) a2 a3).bind fun t657 => ((levyref1_bounded.f 1 t657).bind fun bt658 => (some (bt658.1, bt658.2)))) = some (r1, r2) := H
     have A61 := Aside0.mk A610
     clear A610
     replace H := Option.bind_eq_some_iff.mp H
     obtain ⟨t657, A620, H⟩ := H
     replace H : ((levyref1_bounded.f 1 t657).bind fun bt658 => (some (bt658.1, bt658.2))) = some (r1, r2) := H
     have A62 := Aside0.mk A620
     clear A620
     replace H := Option.bind_eq_some_iff.mp H
     obtain ⟨⟨t658, t659⟩, A630, H⟩ := H
     replace H : (some (t658, t659)) = some (r1, r2) := H
     have A63 := Aside0.mk A630
     clear A630
     simp only [Option.some.injEq, Prod.mk.injEq] at H
     obtain ⟨rfl, rfl⟩ := H
     have hnb64 := NB632_633.out
     have hnc64 := NB633_632.out
     have hnb65 := NB632_640.out
     have hnc65 := NB640_632.out
     have hcz66_0 : wc.cell? ⟨gb632, 0, none⟩ = some (.int .i64 a0_0) := (blk_cell BK632.out 0).trans rfl
     have hcz66_1 : wc.cell? ⟨gb632, 1, none⟩ = some (.int .i64 a0_1) := (blk_cell BK632.out 1).trans rfl
     have hfz66_0 := blk_frozen BK632.out 0
     have hfz66_1 := blk_frozen BK632.out 1
     go_wp2_with (first | ((with_reducible refine gate_callee (f := 73) rfl ?_); refine goesL_ (some 41) rfl rfl Tryd.func73 (by kernel_rfl) rfl #[.int .i64 a0_1] rfl agx ?_; (with_reducible refine (levyref1_size.calls a0_1 t646 _ A57.out).mono ?_); rintro e w67 ⟨rfl, hb⟩; refine ⟨_, rfl, ?_⟩; have n0_ := Aside0.mk (blk_below (g := gb632) (o := .cells #[.int .i64 a0_0, .int .i64 a0_1] 23 (0, 0)) bkx hb); have n1_ := Aside0.mk (blk_below (g := gb633) (o := .cells #[.int .i64 0, .int .i64 0] 23 (0, 0)) bkx hb); have n2_ := Aside0.mk (blk_below (g := gb640) (o := .cells #[.int .i64 t637, .int .i64 t638] 23 (0, 0)) bkx hb); have n3_ := Aside0.mk (below_step blx hb); clear BK632; clear BK633; clear BK640; clear HB; have BK632 := n0_; have BK633 := n1_; have BK640 := n2_; have HB := n3_; clear n0_ n1_ n2_ n3_; (try clear hb); (try clear hb2); (try clear hk); (try clear hi)) | ((with_reducible refine gate_callee (f := 72) rfl ?_); refine goesL_ (some 42) rfl rfl Tryd.func72 (by kernel_rfl) rfl #[.int .i64 t646] rfl agx ?_; (with_reducible refine (levyref1_digits.calls kj19 t646 t647 _ A58.out).mono ?_); rintro e w68 ⟨v648, rfl, ho0, hb⟩; refine ⟨_, rfl, ?_⟩; have n0_ := Aside0.mk (Kd.R_lower ho0 (below_size blx)); have n1_ := Aside0.mk (blk_below (g := gb632) (o := .cells #[.int .i64 a0_0, .int .i64 a0_1] 23 (0, 0)) bkx hb); have n2_ := Aside0.mk (blk_below (g := gb633) (o := .cells #[.int .i64 0, .int .i64 0] 23 (0, 0)) bkx hb); have n3_ := Aside0.mk (blk_below (g := gb640) (o := .cells #[.int .i64 t637, .int .i64 t638] 23 (0, 0)) bkx hb); have n4_ := Aside0.mk (below_step blx hb); clear BK632; clear BK633; clear BK640; clear HB; have HO649 := n0_; have BK632 := n1_; have BK633 := n2_; have BK640 := n3_; have HB := n4_; clear n0_ n1_ n2_ n3_ n4_; (try clear hb); (try clear hb2); (try clear hk); (try clear hi); (try clear ho0)) | ((with_reducible refine gate_callee (f := 73) rfl ?_); refine goesL_ (some 44) rfl rfl Tryd.func73 (by kernel_rfl) rfl #[.int .i64 a1] rfl agx ?_; (with_reducible refine (levyref1_size.calls a1 t650 _ A59.out).mono ?_); rintro e w69 ⟨rfl, hb⟩; refine ⟨_, rfl, ?_⟩; have n0_ := Aside0.mk (Kd.R_below (by (with_reducible repeat (first | apply Kd.R_alloc | apply Kd.R_drewN | apply Kd.R_drew)); exact HO649.out) hb); have n1_ := Aside0.mk (blk_below (g := gb632) (o := .cells #[.int .i64 a0_0, .int .i64 a0_1] 23 (0, 0)) bkx hb); have n2_ := Aside0.mk (blk_below (g := gb633) (o := .cells #[.int .i64 0, .int .i64 0] 23 (0, 0)) bkx hb); have n3_ := Aside0.mk (blk_below (g := gb640) (o := .cells #[.int .i64 t637, .int .i64 t638] 23 (0, 0)) bkx hb); have n4_ := Aside0.mk (below_step blx hb); clear HO649; clear BK632; clear BK633; clear BK640; clear HB; have HO649 := n0_; have BK632 := n1_; have BK633 := n2_; have BK640 := n3_; have HB := n4_; clear n0_ n1_ n2_ n3_ n4_; (try clear hb); (try clear hb2); (try clear hk); (try clear hi)) | ((with_reducible refine gate_callee (f := 72) rfl ?_); refine goesL_ (some 45) rfl rfl Tryd.func72 (by kernel_rfl) rfl #[.int .i64 t650] rfl agx ?_; (with_reducible refine (levyref1_digits.calls kj19 t650 t651 _ A60.out).mono ?_); rintro e w70 ⟨v652, rfl, ho0, hb⟩; refine ⟨_, rfl, ?_⟩; have n0_ := Aside0.mk (Kd.R_elder' (by (with_reducible repeat (first | apply Kd.R_alloc | apply Kd.R_drewN | apply Kd.R_drew)); exact HO649.out) (Kd.R_base ho0) hb); have n1_ := Aside0.mk (Kd.R_lower (Kd.R_new' ho0 (Kd.R_lt (by (with_reducible repeat (first | apply Kd.R_alloc | apply Kd.R_drewN | apply Kd.R_drew)); exact HO649.out))) (below_size blx)); have n2_ := Aside0.mk (blk_below (g := gb632) (o := .cells #[.int .i64 a0_0, .int .i64 a0_1] 23 (0, 0)) bkx hb); have n3_ := Aside0.mk (blk_below (g := gb633) (o := .cells #[.int .i64 0, .int .i64 0] 23 (0, 0)) bkx hb); have n4_ := Aside0.mk (blk_below (g := gb640) (o := .cells #[.int .i64 t637, .int .i64 t638] 23 (0, 0)) bkx hb); have n5_ := Aside0.mk (below_step blx hb); clear HO649; clear BK632; clear BK633; clear BK640; clear HB; have HO649 := n0_; have HO653 := n1_; have BK632 := n2_; have BK633 := n3_; have BK640 := n4_; have HB := n5_; clear n0_ n1_ n2_ n3_ n4_ n5_; (try clear hb); (try clear hb2); (try clear hk); (try clear hi); (try clear ho0); obtain ⟨Ao71, co71, eo71⟩ := Kd.R_slice HO649.out; subst eo71; obtain ⟨Ao72, co72, eo72⟩ := Kd.R_slice HO653.out; subst eo72) | ((with_reducible refine gate_callee (f := 76) rfl ?_); refine goesL_ (some 46) rfl rfl Tryd.func76 (by kernel_rfl) rfl #[.slice Ao71 t647.length co71, .slice Ao72 t651.length co72] rfl agx ?_; (with_reducible refine (levyref1_product.calls kj19 _ _ t647 _ _ t651 t654 _ ?side1 ?side2 ?side3 ?side4 A61.out).mono ?_); (case side1 => repeat (first | exact (Kd.R_reads' HO649.out).2.2 | (with_reducible refine Kd.C_alloc ?_ _) | (with_reducible refine Kd.C_drewN ?_ _) | (with_reducible refine Kd.C_drew ?_))); (case side2 => exact (Kd.R_reads' HO649.out).2.1); (case side3 => repeat (first | exact (Kd.R_reads' HO653.out).2.2 | (with_reducible refine Kd.C_alloc ?_ _) | (with_reducible refine Kd.C_drewN ?_ _) | (with_reducible refine Kd.C_drew ?_))); (case side4 => exact (Kd.R_reads' HO653.out).2.1); rintro e w73 ⟨v655, rfl, ho0, hb⟩; refine ⟨_, rfl, ?_⟩; have n0_ := Aside0.mk (Kd.R_elder' (by (with_reducible repeat (first | apply Kd.R_alloc | apply Kd.R_drewN | apply Kd.R_drew)); exact HO649.out) (Kd.R_base ho0) hb); have n1_ := Aside0.mk (Kd.R_elder' (by (with_reducible repeat (first | apply Kd.R_alloc | apply Kd.R_drewN | apply Kd.R_drew)); exact HO653.out) (Kd.R_base ho0) hb); have n2_ := Aside0.mk (Kd.R_lower (Kd.R_new' (Kd.R_new' ho0 (Kd.R_lt (by (with_reducible repeat (first | apply Kd.R_alloc | apply Kd.R_drewN | apply Kd.R_drew)); exact HO649.out))) (Kd.R_lt (by (with_reducible repeat (first | apply Kd.R_alloc | apply Kd.R_drewN | apply Kd.R_drew)); exact HO653.out))) (below_size blx)); have n3_ := Aside0.mk (blk_below (g := gb632) (o := .cells #[.int .i64 a0_0, .int .i64 a0_1] 23 (0, 0)) bkx hb); have n4_ := Aside0.mk (blk_below (g := gb633) (o := .cells #[.int .i64 0, .int .i64 0] 23 (0, 0)) bkx hb); have n5_ := Aside0.mk (blk_below (g := gb640) (o := .cells #[.int .i64 t637, .int .i64 t638] 23 (0, 0)) bkx hb); have n6_ := Aside0.mk (below_step blx hb); clear HO649; clear HO653; clear BK632; clear BK633; clear BK640; clear HB; have HO649 := n0_; have HO653 := n1_; have HO656 := n2_; have BK632 := n3_; have BK633 := n4_; have BK640 := n5_; have HB := n6_; clear n0_ n1_ n2_ n3_ n4_ n5_ n6_; (try clear hb); (try clear hb2); (try clear hk); (try clear hi); (try clear ho0); have hcz74_0 : w73.cell? ⟨gb632, 0, none⟩ = some (.int .i64 a0_0) := (blk_cell BK632.out 0).trans rfl; have hcz74_1 : w73.cell? ⟨gb632, 1, none⟩ = some (.int .i64 a0_1) := (blk_cell BK632.out 1).trans rfl; have hfz74_0 := blk_frozen BK632.out 0; have hfz74_1 := blk_frozen BK632.out 1; obtain ⟨Ao75, co75, eo75⟩ := Kd.R_slice HO656.out; subst eo75) | ((with_reducible refine gate_callee (f := 71) rfl ?_); refine goesL_ (some 56) rfl rfl Tryd.func71 (by kernel_rfl) rfl #[.slice Ao75 t654.length co75, .bool ((decide (a0_1 < 0)) != (decide (a1 < 0))), .int .i64 a2, .int .i64 a3] rfl agx ?_; (with_reducible refine (levyref1_rounded.calls kj19 _ _ t654 ((decide (a0_1 < 0)) != (decide (a1 < 0))) a2 a3 t657 _ ?side1 ?side2 A62.out).mono ?_); (case side1 => repeat (first | exact (Kd.R_reads' HO656.out).2.2 | (with_reducible refine Kd.C_alloc ?_ _) | (with_reducible refine Kd.C_drewN ?_ _) | (with_reducible refine Kd.C_drew ?_))); (case side2 => exact (Kd.R_reads' HO656.out).2.1); rintro e w76 ⟨rfl, hb⟩; refine ⟨_, rfl, ?_⟩; have n0_ := Aside0.mk (Kd.R_below (by (with_reducible repeat (first | apply Kd.R_alloc | apply Kd.R_drewN | apply Kd.R_drew)); exact HO649.out) hb); have n1_ := Aside0.mk (Kd.R_below (by (with_reducible repeat (first | apply Kd.R_alloc | apply Kd.R_drewN | apply Kd.R_drew)); exact HO653.out) hb); have n2_ := Aside0.mk (Kd.R_below (by (with_reducible repeat (first | apply Kd.R_alloc | apply Kd.R_drewN | apply Kd.R_drew)); exact HO656.out) hb); have n3_ := Aside0.mk (blk_below (g := gb632) (o := .cells #[.int .i64 a0_0, .int .i64 a0_1] 23 (0, 0)) bkx hb); have n4_ := Aside0.mk (blk_below (g := gb633) (o := .cells #[.int .i64 0, .int .i64 0] 23 (0, 0)) bkx hb); have n5_ := Aside0.mk (blk_below (g := gb640) (o := .cells #[.int .i64 t637, .int .i64 t638] 23 (0, 0)) bkx hb); have n6_ := Aside0.mk (below_step blx hb); clear HO649; clear HO653; clear HO656; clear BK632; clear BK633; clear BK640; clear HB; have HO649 := n0_; have HO653 := n1_; have HO656 := n2_; have BK632 := n3_; have BK633 := n4_; have BK640 := n5_; have HB := n6_; clear n0_ n1_ n2_ n3_ n4_ n5_ n6_; (try clear hb); (try clear hb2); (try clear hk); (try clear hi)) | ((with_reducible refine gate_callee (f := 58) rfl ?_); refine goesL_ (some 57) rfl rfl Tryd.func58 (by kernel_rfl) rfl #[.int .i64 1, .int .i64 t657] rfl agx ?_; (with_reducible refine (levyref1_bounded.calls 1 t657 t658 t659 _ A63.out).mono ?_); rintro e w77 ⟨rfl, hb⟩; refine ⟨_, rfl, ?_⟩; have n0_ := Aside0.mk (Kd.R_below (by (with_reducible repeat (first | apply Kd.R_alloc | apply Kd.R_drewN | apply Kd.R_drew)); exact HO649.out) hb); have n1_ := Aside0.mk (Kd.R_below (by (with_reducible repeat (first | apply Kd.R_alloc | apply Kd.R_drewN | apply Kd.R_drew)); exact HO653.out) hb); have n2_ := Aside0.mk (Kd.R_below (by (with_reducible repeat (first | apply Kd.R_alloc | apply Kd.R_drewN | apply Kd.R_drew)); exact HO656.out) hb); have n3_ := Aside0.mk (blk_below (g := gb632) (o := .cells #[.int .i64 a0_0, .int .i64 a0_1] 23 (0, 0)) bkx hb); have n4_ := Aside0.mk (blk_below (g := gb633) (o := .cells #[.int .i64 0, .int .i64 0] 23 (0, 0)) bkx hb); have n5_ := Aside0.mk (blk_below (g := gb640) (o := .cells #[.int .i64 t637, .int .i64 t638] 23 (0, 0)) bkx hb); have n6_ := Aside0.mk (below_step blx hb); clear HO649; clear HO653; clear HO656; clear BK632; clear BK633; clear BK640; clear HB; have HO649 := n0_; have HO653 := n1_; have HO656 := n2_; have BK632 := n3_; have BK633 := n4_; have BK640 := n5_; have HB := n6_; clear n0_ n1_ n2_ n3_ n4_ n5_ n6_; (try clear hb); (try clear hb2); (try clear hk); (try clear hi); have hnb78 := NB633_640.out; have hnc78 := NB640_633.out; have hcz79_0 : w77.cell? ⟨gb633, 0, none⟩ = some (.int .i64 0) := (blk_cell BK633.out 0).trans rfl; have hcz79_1 : w77.cell? ⟨gb633, 1, none⟩ = some (.int .i64 0) := (blk_cell BK633.out 1).trans rfl; have hfz79_0 := blk_frozen BK633.out 0; have hfz79_1 := blk_frozen BK633.out 1))
     refine bodyPost_ret (results_cell_row rfl _ _ gb633 23 #[.int .i64 t658, .int .i64 t659] (0, 0) _ rfl (by (with_reducible repeat (first | refine blk_drewN ?_ _ | refine blk_drew ?_ | refine blk_alloc ?_ _)); refine blk_put (cs := #[.int .i64 t658, .int .i64 0]) ?_ 1 _ rfl; (with_reducible repeat (first | refine blk_drewN ?_ _ | refine blk_drew ?_ | refine blk_alloc ?_ _)); refine blk_put (cs := #[.int .i64 0, .int .i64 0]) ?_ 0 _ rfl; (with_reducible repeat (first | refine blk_drewN ?_ _ | refine blk_drew ?_ | refine blk_alloc ?_ _)); exact BK633.out) Tryd.underlying23 rfl (by kernel_rfl)) rfl ?_
     exact ⟨by first | rfl | (simp [errW_none, errW_some] <;> rfl) | (simp [*, errW_none, errW_some] <;> rfl), blx⟩

end Go.Proofs.YtnjhjaifmgjljaaDoor.PM
